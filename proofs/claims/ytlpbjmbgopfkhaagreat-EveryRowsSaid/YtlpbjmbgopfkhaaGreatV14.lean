/- A small calculus of symbolic states, part 14: maps that are nil. No program in sight. -/
import Derived.Test.YtlpbjmbgopfkhaaGreatV13
namespace Go.Proofs.YtlpbjmbgopfkhaaGreat.V
open Go Go.RowKit Go.MapKept
set_option linter.unusedVariables false
section
variable {P : Program} {n : Nat} {B : Base} {ks : Ks} {sg : Sg} {d : Option Tmp} {ty : TypeId} {pos : String} {aft : Array Edge} {g : Option (Nat × Bool)}
theorem Val.deleteNil {t kt et t2 : TypeId} {x y : Operand} {k : ByteArray} (hx : ev ks x = some (.map none)) (hy : ev ks y = some (.string k)) (hu : P.underlying t = some (.map kt et)) (hk : P.underlying kt = some .string) :
    Val P n B ⟨d, .call { callee := .builtin .delete, args := #[x, y], argTypes := #[t, t2] }, ty, pos, aft, g⟩ ks sg (.tuple #[]) := fun a w ha hw => by
  have e1 := ha.ev hx
  have e2 := ha.ev hy
  have hc : ∀ e, (Instr.checkKey e 10000 kt (.string k)).run P w = .ok () w := fun e => run_checkKey hk (show IsKey .string (.string k) from trivial) e 9999
  have key : (Builtin.delete_ #[t, t2] ty #[.map none, .string k]).run P w = .ok (.tuple #[]) w := by
    simp only [Builtin.delete_, List.getElem?_toArray, List.getElem?_cons_zero, List.getElem?_cons_succ, Sem.run_bind, run_underlying hu, Result.andThen_ok, hc, Sem.run_pure]
  simp only [execOp, resolve, invoke, Go.builtin, Sem.run_bind, Sem.run_pure, Result.andThen_ok, List.map_toArray, List.map_cons, List.map_nil, e1, e2, key]
theorem Val.lenMNil {x : Operand} {t kt et : TypeId} (hx : ev ks x = some (.map none)) (hu : P.underlying t = some (.map kt et)) : Val P n B ⟨d, .call { callee := .builtin .len, args := #[x], argTypes := #[t] }, ty, pos, aft, g⟩ ks sg (.int .i64 0) := fun a w ha hw => by
  have e := ha.ev hx
  simp [execOp, resolve, invoke, Go.builtin, Builtin.len_, e, goInt, run_underlying hu]
end
end Go.Proofs.YtlpbjmbgopfkhaaGreat.V
