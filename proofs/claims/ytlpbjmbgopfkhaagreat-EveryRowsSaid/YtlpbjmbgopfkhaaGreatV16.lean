/- A small calculus of symbolic states, part 16: one's own slice appended to one's own. No program in sight. -/
import Derived.Test.YtlpbjmbgopfkhaaGreatV15
namespace Go.Proofs.YtlpbjmbgopfkhaaGreat.V
open Go Go.RowKit
set_option linter.unusedVariables false
section
variable {P : Program} {n : Nat} {B : Base} {ks : Ks} {sg : Sg} {d : Option Tmp} {ty : TypeId} {pos : String} {aft : Array Edge} {g : Option (Nat × Bool)}
theorem Eff.appendOwn {t e sz bytes : Nat} {z : Value} {x y : Operand} {xs ys : List Value} {m0 m : Nat} {o oy : OwnO} {r r2 : Sg} (hx : ev ks x = some (ownV m0 o)) (hy : ev ks y = some (ownV m oy)) (hu : P.underlying t = some (.slice e)) (hi : (P.info? e).map (fun i => (i.zero, i.size, i.bytes)) = some (some z, sz, bytes)) (hzs : z.cells.size = sz) (hsz : 0 < sz)
    {pk pk2 : Sg} (hp : Pick pk sg r) (hpk : pk.flatten = ownG e xs o) (hok : ownOk sz m0 xs o) (hp2 : Pick pk2 sg r2) (hpk2 : pk2.flatten = ownG e ys oy) (hoky : ownOk sz m ys oy) (h1 : ys.all (·.oneCell') = true) (hmax : (m0 + m) * bytes ≤ 140737488355328) (hmax2 : m0 + m ≤ 9223372036854775807) :
    Eff P n B ⟨d, .call { callee := .builtin .append, args := #[x, y], argTypes := #[t, t] }, ty, pos, aft, g⟩ ks sg (α := OwnO) (fun o' => ownOk sz (m0 + m) (xs ++ ys) o') (fun o' => ownV (m0 + m) o') (fun o' => ownG e (xs ++ ys) o' :: r) := by
  rcases oy with _ | ⟨gy, resty, capy⟩
  · have h0 : m = 0 := hoky.2
    subst h0
    exact Eff.appendAny ys hx hy hu hi hzs hsz hp hpk hok hoky.1 (fun hm => by omega) h1 hmax hmax2
  · refine Eff.appendAny ys hx hy hu hi hzs hsz hp hpk hok hoky.1 (fun hm => ⟨gy, 0, rfl, fun w hw => ?_⟩) h1 hmax hmax2
    have hw2 : Hp B (ownS e ys (some (gy, resty, capy)) ++ r2) w := hw.perm (by rw [List.flatten_append]; have := hp2.perm'; rwa [hpk2] at this)
    exact range_of_block (o := 0) (cs := ys) (r := resty) (hw2.own (gy, .cells (ys ++ resty).toArray e (0, 0)) (by simp [ownS])) rfl
end
end Go.Proofs.YtlpbjmbgopfkhaaGreat.V
