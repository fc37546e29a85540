/- A small calculus of symbolic states, part 22: slices of nil. No program in sight. -/
import Derived.Test.YtlpbjmbgopfkhaaGreatV21
namespace Go.Proofs.YtlpbjmbgopfkhaaGreat.V
open Go Go.RowKit
set_option linter.unusedVariables false
section
variable {P : Program} {n : Nat} {B : Base} {ks : Ks} {sg : Sg} {d : Option Tmp} {ty : TypeId} {pos : String} {aft : Array Edge} {g : Option (Nat × Bool)}
theorem Val.sliceNil {t e sz : Nat} {x : Operand} {lo hi : Option Operand} (hx : ev ks x = some (.slice none 0 0)) (hu : P.underlying t = some (.slice e)) (hs : ∀ w, (sizeOf e).run P w = .ok sz w)
    (hlo : optI ks lo 0 0) (hhi : optI ks hi 0 0) : Val P n B ⟨d, .slice t x lo hi none, ty, pos, aft, g⟩ ks sg (.slice none 0 0) := fun a w ha hw => by
  have conv : ∀ {o : Option Operand}, optI ks o 0 0 → o.map a.eval = none ∨ ∃ k, o.map a.eval = some (.int k ((0 : Nat) : Int)) := fun {o} h => by
    cases o with
    | none => exact .inl rfl
    | some y => obtain ⟨k, hk⟩ := h; exact .inr ⟨k, by simp [ha.ev hk]⟩
  show (do pure (Next.value (← Instr.sliceAt t (a.eval x) (lo.map a.eval) (hi.map a.eval) ((none : Option Operand).map a.eval))) : Sem Next).run P w = _
  rw [ha.ev hx]
  refine run_value ?_
  rcases conv hlo with h1 | ⟨k1, h1⟩ <;> rcases conv hhi with h2 | ⟨k2, h2⟩ <;>
    simp [Instr.sliceAt, Instr.slice, Instr.sliceBounds, Instr.sliceBound, asIntOf, Sem.run_bind, run_underlying hu, hs, h1, h2]
theorem LW.perm {Q : Exit → Act → World → Prop} {ops : Array Oper} {l : List Oper} {sg' : Sg} (h : LW P n B ops Q l ks sg') (hp : sg.flatten.Perm sg'.flatten) : LW P n B ops Q l ks sg := fun a w ha hw => h a w ha (hw.perm hp)
end
end Go.Proofs.YtlpbjmbgopfkhaaGreat.V
