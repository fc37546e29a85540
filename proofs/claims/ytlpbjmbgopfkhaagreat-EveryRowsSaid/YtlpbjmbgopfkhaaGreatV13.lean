/- A small calculus of symbolic states, part 13: appends of any number of elements, none too, to a slice of one's own. No program in sight. -/
import Derived.Test.YtlpbjmbgopfkhaaGreatV12
namespace Go.Proofs.YtlpbjmbgopfkhaaGreat.V
open Go Go.RowKit
set_option linter.unusedVariables false
section
variable {P : Program} {n : Nat} {B : Base} {ks : Ks} {sg : Sg} {d : Option Tmp} {ty : TypeId} {pos : String} {aft : Array Edge} {g : Option (Nat × Bool)}
/-- The block of such a slice, as one segment. -/
def ownG (e : TypeId) (xs : List Value) (o : OwnO) : Seg := (ownS e xs o).flatten
theorem ownG_none {e : TypeId} {xs : List Value} : ownG e xs none = [] := rfl
theorem ownG_some {e : TypeId} {xs : List Value} {gb c : Nat} {rest : List Value} : ownG e xs (some (gb, rest, c)) = [(gb, .cells (xs ++ rest).toArray e (0, 0))] := rfl
/-- An append of as many elements as there are, none too: the block is one's own behind it as it was ahead. -/
theorem Eff.appendAny {t e sz bytes : Nat} {z : Value} {x y : Operand} {xs : List Value} {m0 : Nat} {o : OwnO} {r : Sg} {p : Option Addr} {m c : Nat} (news : List Value) (hx : ev ks x = some (ownV m0 o)) (hy : ev ks y = some (.slice p m c)) (hu : P.underlying t = some (.slice e)) (hi : (P.info? e).map (fun i => (i.zero, i.size, i.bytes)) = some (some z, sz, bytes)) (hzs : z.cells.size = sz) (hsz : 0 < sz)
    {pk : Sg} (hp : Pick pk sg r) (hpk : pk.flatten = ownG e xs o) (hok : ownOk sz m0 xs o) (hl : news.length = m * sz) (hnews : 0 < m → ∃ b off, p = some ⟨b, off, none⟩ ∧ ∀ w, Hp B sg w → w.rangeAt b off news) (h1 : news.all (·.oneCell') = true) (hmax : (m0 + m) * bytes ≤ 140737488355328) (hmax2 : m0 + m ≤ 9223372036854775807) :
    Eff P n B ⟨d, .call { callee := .builtin .append, args := #[x, y], argTypes := #[t, t] }, ty, pos, aft, g⟩ ks sg (α := OwnO) (fun o' => ownOk sz (m0 + m) (xs ++ news) o') (fun o' => ownV (m0 + m) o') (fun o' => ownG e (xs ++ news) o' :: r) := fun a w K Q ha hw hk => by
  have hw2 : Hp B (ownS e xs o ++ r) w := hw.perm (by rw [List.flatten_append]; have := hp.perm'; rwa [hpk] at this)
  have e1 := ha.ev hx
  have e2 := ha.ev hy
  by_cases hm : 0 < m
  · obtain ⟨b, off, rfl, hn⟩ := hnews hm
    obtain ⟨o', w', hrun, h2, h3, h4⟩ := append_run (P := P) (B := B) (ty := ty) hu hi hzs hsz hw2 hok (c := c) hm hl (hn w hw) h1 hmax hmax2
    unfold Oper.wp
    have : (execOp a.eval ⟨d, .call { callee := .builtin .append, args := #[x, y], argTypes := #[t, t] }, ty, pos, aft, g⟩).run P w = .ok (.value (ownV (m0 + m) o')) w' := by
      simp only [execOp, resolve, invoke, Go.builtin, Sem.run_bind, Sem.run_pure, Result.andThen_ok, List.map_toArray, List.map_cons, List.map_nil, e1, e2, hrun]
    rw [this]
    exact hk o' w' h2 (h4.perm (by rw [List.flatten_append]; exact .refl _))
  · have h0 : m = 0 := by omega
    subst h0
    have hnil : news = [] := List.length_eq_zero_iff.1 (by omega)
    subst hnil
    have hv : Val P n B ⟨d, .call { callee := .builtin .append, args := #[x, y], argTypes := #[t, t] }, ty, pos, aft, g⟩ ks sg (ownV m0 o) := by
      rcases o with _ | ⟨gb, rest, cap⟩
      · exact Val.appendNil0 hx hy hu hi
      · refine Val.append0 hx hy hu hi ?_
        obtain ⟨h2, h3⟩ := hok
        simp only at h3
        rw [h2] at h3
        exact Nat.le_of_mul_le_mul_right (by omega : m0 * sz ≤ cap * sz) hsz
    unfold Oper.wp
    rw [hv a w ha hw]
    refine hk o w (by simpa using hok) (hw2.perm ?_)
    rw [List.append_nil, List.flatten_append]
    exact .refl _
end
end Go.Proofs.YtlpbjmbgopfkhaaGreat.V
