/- A small calculus of symbolic states, part 24: an interface's value against nil. No program in sight. -/
import Derived.Test.YtlpbjmbgopfkhaaGreatV23
import Derived.WideLaws
import Derived.Laws.Entries
namespace Go.Proofs.YtlpbjmbgopfkhaaGreat.V
open Go Go.RowKit
set_option linter.unusedVariables false
section
variable {P : Program} {n : Nat} {B : Base} {ks : Ks} {sg : Sg} {d : Option Tmp} {ty : TypeId} {pos : String} {aft : Array Edge} {g : Option (Nat × Bool)}
theorem Val.neIface {t t' : TypeId} {x : Operand} {v : Value} (r : Bool) (hx : ev ks x = some v) (hu : P.underlying t = some (.interface (P.methodsAt t))) (h : (v = .nilIface ∧ r = false) ∨ ((∃ u p, v = .iface u p) ∧ r = true)) :
    Val P n B ⟨d, .binOp .neq t x (.const .nilIface) t', ty, pos, aft, g⟩ ks sg (.bool r) := Val.bin hx rfl fun w => by
  rcases h with ⟨rfl, rfl⟩ | ⟨⟨u, p, rfl⟩, rfl⟩
  · have h1 : (eqGuard .neq t x (.const .nilIface) .nilIface .nilIface).run P w = .ok () w := by cases x <;> rfl
    simp only [Sem.run_bind, h1, Result.andThen_ok]
    exact run_neq_nil_nil w t hu
  · have h1 : (eqGuard .neq t x (.const .nilIface) (.iface u p) .nilIface).run P w = .ok () w := by cases x <;> rfl
    simp only [Sem.run_bind, h1, Result.andThen_ok]
    exact run_neq_held_nil w t u p hu
end
end Go.Proofs.YtlpbjmbgopfkhaaGreat.V
