/- A small calculus of symbolic states, part 30: array literals; loops that are walked round by round. No program in sight. -/
import Derived.Test.YtlpbjmbgopfkhaaGreatV29
import Derived.LoopN
namespace Go.Proofs.YtlpbjmbgopfkhaaGreat.V
open Go Go.RowKit
set_option linter.unusedVariables false
section
variable {P : Program} {n : Nat} {B : Base} {ks : Ks} {sg : Sg} {d : Option Tmp} {ty : TypeId} {pos : String} {aft : Array Edge} {g : Option (Nat × Bool)}
/-- An array literal. -/
theorem Val.buildArr {t e : TypeId} {m sz : Nat} (cs : List Value) {ps : List (Nat × Operand)} {vs : List (Nat × Value)} {zs : List Value} (hz : ∀ w, (zeroValue t).run P w = .ok (.agg zs.toArray) w) (hu : P.underlying t = some (.array m e))
    (hs : ∀ w, (sizeOf e).run P w = .ok sz w) (hv : evp ks ps = some vs) (hf : fillL (fun (i : Nat) => some (i * sz, sz)) zs vs = some cs) :
    Val P n B ⟨d, .build t ps.toArray, ty, pos, aft, g⟩ ks sg (.agg cs.toArray) := fun a w ha hw => by
  show (do pure (Next.value (← Instr.build t (ps.toArray.map fun (i, x) => (i, a.eval x)))) : Sem Next).run P w = _
  refine run_value ?_
  have hm := ha.evp hv
  have hfill := fill_of_fillL _ _ _ _ hf
  simp only [Instr.build, Sem.run_bind, hz, Result.andThen_ok, run_underlying hu, hs, List.map_toArray, hm, Value.cells, hfill, Sem.run_pure]
variable {Q : Exit → Act → World → Prop} {c : Code}
/-- A loop, walked round by round: at most so many rounds more. -/
theorem CW.loopU (m : Nat) (h : CW P n B (Exit.then (Code.rounds P c Q m) Q) c ks sg) : CW P n B Q (.loop c) ks sg := fun a w ha hw => wp_loop_rounds (m + 1) (h a w ha hw)
theorem PQ.next {m : Nat} (h : CW P n B (Exit.then (Code.rounds P c Q m) Q) c ks sg) : PQ n B (Exit.then (Code.rounds P c Q (m + 1)) Q) .normal ks sg := fun a w ha hw => h a w ha hw
end
end Go.Proofs.YtlpbjmbgopfkhaaGreat.V
