/- A small calculus of symbolic states, part 12: an append of nothing to nil. No program in sight. -/
import Derived.Test.YtlpbjmbgopfkhaaGreatV11
namespace Go.Proofs.YtlpbjmbgopfkhaaGreat.V
open Go Go.RowKit
set_option linter.unusedVariables false
section
variable {P : Program} {n : Nat} {B : Base} {ks : Ks} {sg : Sg} {d : Option Tmp} {ty : TypeId} {pos : String} {aft : Array Edge} {g : Option (Nat × Bool)}
theorem Val.appendNil0 {t e sz bytes : Nat} {z : Value} {x y : Operand} {c' : Nat} {p : Option Addr} (hx : ev ks x = some (.slice none 0 0)) (hy : ev ks y = some (.slice p 0 c')) (hu : P.underlying t = some (.slice e)) (hi : (P.info? e).map (fun i => (i.zero, i.size, i.bytes)) = some (some z, sz, bytes)) :
    Val P n B ⟨d, .call { callee := .builtin .append, args := #[x, y], argTypes := #[t, t] }, ty, pos, aft, g⟩ ks sg (.slice none 0 0) := fun a w ha hw => by
  have e1 := ha.ev hx
  have e2 := ha.ev hy
  cases hq : P.info? e with
  | none => simp [hq] at hi
  | some inf =>
    have hf : (Builtin.firstCells inf.size 0 (.slice p 0 c')).run P w = .ok #[] w := by
      cases p with
      | none => simp [Builtin.firstCells]
      | some q => have := run_loadCells_list (P := P) w q [] (fun j v hv => by simp at hv); simpa [Builtin.firstCells] using this
    have hrun : (Builtin.append_ #[t, t] ty #[.slice none 0 0, .slice p 0 c']).run P w = .ok (.slice none 0 0) w := by
      simp [Builtin.append_, run_underlying hu, sizeOf, typeInfo, hq, Builtin.lenOf, hf]
    simp only [execOp, resolve, invoke, Go.builtin, Sem.run_bind, Sem.run_pure, Result.andThen_ok, List.map_toArray, List.map_cons, List.map_nil, e1, e2, hrun]
end
end Go.Proofs.YtlpbjmbgopfkhaaGreat.V
