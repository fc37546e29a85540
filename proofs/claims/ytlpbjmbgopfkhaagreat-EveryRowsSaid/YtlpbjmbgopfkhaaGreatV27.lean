/- A small calculus of symbolic states, part 27: an append of a make; capacities. No program in sight. -/
import Derived.Test.YtlpbjmbgopfkhaaGreatV26
import Derived.Lib.AppendZerosOnto
namespace Go.Proofs.YtlpbjmbgopfkhaaGreat.V
open Go Go.RowKit
set_option linter.unusedVariables false
section
variable {P : Program} {n : Nat} {B : Base} {ks : Ks} {sg : Sg} {d : Option Tmp} {ty : TypeId} {pos : String} {aft : Array Edge} {g : Option (Nat × Bool)}
theorem Val.capSl {x : Operand} {t : TypeId} {e : TypeId} {p : Option Addr} {m c : Nat} (hx : ev ks x = some (.slice p m c)) (hu : P.underlying t = some (.slice e)) : Val P n B ⟨d, .call { callee := .builtin .cap, args := #[x], argTypes := #[t] }, ty, pos, aft, g⟩ ks sg (.int .i64 (c : Nat)) := fun a w ha hw => by
  have e := ha.ev hx
  simp [execOp, resolve, invoke, Go.builtin, Builtin.cap_, e, goInt, run_underlying hu]
/-- A slice that has no room for so many zero elements more: a new one. -/
theorem Eff.appendMake {t tn e sz bytes : Nat} {kn : IntKind} {z : Value} {zl : List Value} {x y : Operand} {b i cap k : Nat} {olds : List Value} (hx : ev ks x = some (.slice (some ⟨b, 0, none⟩) i cap)) (hy : ev ks y = some (.int .i64 (k : Nat))) (hu : P.underlying t = some (.slice e)) (hun : P.underlying tn = some (.int kn))
    (hi : (P.info? e).map (fun i => (i.zero, i.size, i.bytes)) = some (some z, sz, bytes)) (hzl : z.cells = zl.toArray) (hzs : zl.length = sz) (hsz : 0 < sz) (hol : olds.length = i * sz) (hold : ∀ w, Hp B sg w → w.rangeAt b 0 olds) (hk : 0 < k) (hg : cap < i + k) (hmax : (i + k) * bytes ≤ 140737488355328) (hmax2 : i + k ≤ 9223372036854775807) :
    Eff P n B ⟨d, .call { callee := .builtin .append, args := #[x, y], argTypes := #[t, tn] }, ty, pos, aft, g⟩ ks sg (α := OwnO) (fun o' => ownOk sz (i + k) (olds ++ repL zl k) o' ∧ o'.isSome = true) (fun o' => ownV (i + k) o') (fun o' => ownG e (olds ++ repL zl k) o' :: sg) := fun a w K Q ha hw hK => by
  have e1 := ha.ev hx
  have e2 := ha.ev hy
  cases hq : P.info? e with
  | none => simp [hq] at hi
  | some inf =>
    simp only [hq, Option.map_some, Option.some.injEq, Prod.mk.injEq] at hi
    obtain ⟨hz, hs, hb⟩ := hi
    have hrng := hold w hw
    have hdrew : ∀ j v, olds[j]? = some v → w.drew.cell? ((⟨b, 0, none⟩ : Addr).add j) = some v := fun j v h => by rw [Addr.add_mid]; exact hrng j v h
    have hfc := run_firstCells_some (P := P) (w := w.drew) inf.size i ⟨b, 0, none⟩ i cap olds (by rw [hs]; exact hol) hdrew
    have hkb : k * inf.bytes ≤ 281474976710656 := by
      have : k * bytes ≤ (i + k) * bytes := Nat.mul_le_mul_right _ (by omega)
      rw [hb]; omega
    have hrun := Go.Lib.run_append_grow_zeros (P := P) w t tn ty e inf z .i64 kn hu hun hq hz (some ⟨b, 0, none⟩) i cap olds hfc k hk (by rw [hs]; exact hsz) hg (by omega) hkb (growslice_fits hg (by rw [hb]; exact hmax))
    have hge := grownCap_ge w (i + k) cap e
    have hzc : ∀ m, Builtin.zeroCells z.cells m = (repL zl m).toArray := fun m => by
      unfold Builtin.zeroCells
      rw [hzl]
      exact range_rep zl m
    rw [hzc, hzc] at hrun
    have hcells : (olds.toArray ++ (repL zl k).toArray ++ (repL zl (grownCap w (i + k) cap e - (i + k))).toArray) = ((olds ++ repL zl k) ++ repL zl (grownCap w (i + k) cap e - (i + k))).toArray := by simp
    rw [hcells] at hrun
    unfold Oper.wp
    have : (execOp a.eval ⟨d, .call { callee := .builtin .append, args := #[x, y], argTypes := #[t, tn] }, ty, pos, aft, g⟩).run P w = .ok (.value (.slice (some ⟨w.heap.size, 0, none⟩) (i + k) (grownCap w (i + k) cap e))) (w.drew.alloc (.cells ((olds ++ repL zl k) ++ repL zl (grownCap w (i + k) cap e - (i + k))).toArray e (0, 0))) := by
      simp only [execOp, resolve, invoke, Go.builtin, Sem.run_bind, Sem.run_pure, Result.andThen_ok, List.map_toArray, List.map_cons, List.map_nil, e1, e2, hrun]
    rw [this]
    refine hK (some (w.heap.size, repL zl (grownCap w (i + k) cap e - (i + k)), grownCap w (i + k) cap e)) _ ⟨⟨by rw [List.length_append, hol, repL_length, hzs, Nat.add_mul], ?_⟩, rfl⟩ ?_
    · simp only [List.length_append, repL_length, hol, hzs]
      rw [← Nat.add_mul, ← Nat.add_mul]
      congr 1
      omega
    · exact hw.drew.alloc _
/-- Structs in two results' cells. -/
theorem PQ.retCC {fn : Func} {R : Ending → World → Prop} {p u : Nat} {t T t2 T2 : TypeId} {b b2 : Nat} {fr fr2 : Nat × Nat} {l l2 : List Value} (hr : fn.results = #[.cell p t, .cell u t2]) (hp : look ks p = some (.pointer (some ⟨b, 0, none⟩))) (hu : look ks u = some (.pointer (some ⟨b2, 0, none⟩)))
    (hm : InS (b, .cells l.toArray T fr) sg) (hg : ∀ w, (isAgg t).run P w = .ok true w) (hs : ∀ w, (sizeOf t).run P w = .ok l.length w) (hm2 : InS (b2, .cells l2.toArray T2 fr2) sg) (hg2 : ∀ w, (isAgg t2).run P w = .ok true w) (hs2 : ∀ w, (sizeOf t2).run P w = .ok l2.length w)
    (h : ∀ w, Hp B sg w → R (.returned (.tuple #[.agg l.toArray, .agg l2.toArray])) w) : PQ n B (bodyPost P fn R) .ret ks sg :=
  PQ.ret_of (fun a w ha hw => by
    have h1 : (loadVar t ⟨b, 0, none⟩).run P w = .ok (.agg l.toArray) w := run_loadVar_many (P := P) (t := t) (range_of_block (o := 0) (r := []) (hw.own _ hm.mem) (by simp : l.drop 0 = l ++ [])) hg hs
    have h2 : (loadVar t2 ⟨b2, 0, none⟩).run P w = .ok (.agg l2.toArray) w := run_loadVar_many (P := P) (t := t2) (range_of_block (o := 0) (r := []) (hw.own _ hm2.mem) (by simp : l2.drop 0 = l2 ++ [])) hg2 hs2
    have h3 : a.tmps[p]?.getD undef = .pointer (some ⟨b, 0, none⟩) := by rw [ha.at_ _ _ hp]; rfl
    have h4 : a.tmps[u]?.getD undef = .pointer (some ⟨b2, 0, none⟩) := by rw [ha.at_ _ _ hu]; rfl
    simp only [results, hr]
    simp [Sem.run_bind, Result.andThen, asAddr, h3, h4, h1, h2]) h
end
end Go.Proofs.YtlpbjmbgopfkhaaGreat.V
