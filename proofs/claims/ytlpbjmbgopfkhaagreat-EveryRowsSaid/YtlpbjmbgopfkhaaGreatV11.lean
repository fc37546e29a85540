/- A small calculus of symbolic states, part 11: slices without elements. No program in sight. -/
import Derived.Test.YtlpbjmbgopfkhaaGreatV10
namespace Go.Proofs.YtlpbjmbgopfkhaaGreat.V
open Go Go.RowKit
set_option linter.unusedVariables false
section
variable {P : Program} {n : Nat} {B : Base} {ks : Ks} {sg : Sg} {d : Option Tmp} {ty : TypeId} {pos : String} {aft : Array Edge} {g : Option (Nat × Bool)}
/-- A slice literal of no elements: not nil. -/
theorem Eff.buildSlice0 {t e sz : Nat} (hu : P.underlying t = some (.slice e)) (hs : ∀ w, (sizeOf e).run P w = .ok sz w) :
    Eff P n B ⟨d, .buildSlice t 0 #[], ty, pos, aft, g⟩ ks sg (α := Nat) (fun _ => True) (fun b => .slice (some ⟨b, 0, none⟩) 0 0) (fun b => [(b, .cells ([] ++ []).toArray e (0, 0))] :: sg) :=
  Eff.new fun a w ha hw => by
    show (do pure (Next.value (← Instr.buildSlice t 0 ((#[] : Array (Nat × Operand)).map fun (i, x) => (i, a.eval x)))) : Sem Next).run P w = _
    refine run_value ?_
    simp [Instr.buildSlice, Sem.run_bind, run_underlying hu, hs, Instr.fill, newRow, newObj, Sem.run, Result.andThen]
    rw [show ∀ f : Nat → Value, (Array.range 0).map f = #[] from fun f => Array.eq_empty_of_size_eq_zero (by simp)]
/-- An append of nothing to what is not nil. -/
theorem Val.append0 {t e sz bytes : Nat} {z : Value} {x y : Operand} {b off m c c' : Nat} {p : Option Addr} (hx : ev ks x = some (.slice (some ⟨b, off, none⟩) m c)) (hy : ev ks y = some (.slice p 0 c')) (hu : P.underlying t = some (.slice e)) (hi : (P.info? e).map (fun i => (i.zero, i.size, i.bytes)) = some (some z, sz, bytes)) (hmc : m ≤ c) :
    Val P n B ⟨d, .call { callee := .builtin .append, args := #[x, y], argTypes := #[t, t] }, ty, pos, aft, g⟩ ks sg (.slice (some ⟨b, off, none⟩) m c) := fun a w ha hw => by
  have e1 := ha.ev hx
  have e2 := ha.ev hy
  cases hq : P.info? e with
  | none => simp [hq] at hi
  | some inf =>
    have hf : (Builtin.firstCells inf.size 0 (.slice p 0 c')).run P w = .ok #[] w := by
      cases p with
      | none => simp [Builtin.firstCells]
      | some q => have := run_loadCells_list (P := P) w q [] (fun j v hv => by simp at hv); simpa [Builtin.firstCells] using this
    have hrun : (Builtin.append_ #[t, t] ty #[.slice (some ⟨b, off, none⟩) m c, .slice p 0 c']).run P w = .ok (.slice (some ⟨b, off, none⟩) m c) w := by
      simp [Builtin.append_, run_underlying hu, sizeOf, typeInfo, hq, Builtin.lenOf, hmc, hf, storeCells]
    simp only [execOp, resolve, invoke, Go.builtin, Sem.run_bind, Sem.run_pure, Result.andThen_ok, List.map_toArray, List.map_cons, List.map_nil, e1, e2, hrun]
theorem Val.eqSlNil {t e t' : TypeId} {x y : Operand} {p : Option Addr} {m c : Nat} (hx : ev ks x = some (.slice p m c)) (hy : ev ks y = some (.slice none 0 0)) (hu : P.underlying t = some (.slice e)) :
    Val P n B ⟨d, .binOp .eql t x y t', ty, pos, aft, g⟩ ks sg (.bool p.isNone) := Val.bin hx hy fun w => by
  show (do eqGuard .eql t x y (.slice p m c) (.slice none 0 0); (do pure (Value.bool (← Op.equal t (.slice p m c) (.slice none 0 0)))) : Sem Value).run P w = _
  have h1 : (eqGuard .eql t x y (.slice p m c) (.slice none 0 0)).run P w = .ok () w := rfl
  simp only [Sem.run_bind, h1, run_equal_slice_nil w t e p m c hu, Sem.run_pure, Result.andThen_ok]
end
end Go.Proofs.YtlpbjmbgopfkhaaGreat.V
