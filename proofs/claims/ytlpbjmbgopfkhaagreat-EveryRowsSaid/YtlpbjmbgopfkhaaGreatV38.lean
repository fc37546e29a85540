/- A small calculus of symbolic states, part 38: a walk that goes on from the world it has come to as its new base (what it owned may from now on only be read). No program in sight. -/
import Derived.Test.YtlpbjmbgopfkhaaGreatV8
namespace Go.Proofs.YtlpbjmbgopfkhaaGreat.V
open Go Go.RowKit
set_option linter.unusedVariables false
section
variable {P : Program} {n : Nat} {B : Base} {Q : Exit → Act → World → Prop} {ks : Ks} {sg : Sg} {ops : Array Oper}
theorem CW.rebase {c : Code} (h : ∀ w1, Hp B sg w1 → CW P n ⟨w1, []⟩ Q c ks []) : CW P n B Q c ks sg := fun a w ha hw => h w hw a w ha (hp_none w)
theorem LW.rebase {l : List Oper} (h : ∀ w1, Hp B sg w1 → LW P n ⟨w1, []⟩ ops Q l ks []) : LW P n B ops Q l ks sg := fun a w ha hw => h w hw a w ha (hp_none w)
theorem PQ.rebase {e : Exit} (h : ∀ w1, Hp B sg w1 → PQ n ⟨w1, []⟩ Q e ks []) : PQ n B Q e ks sg := fun a w ha hw => h w hw a w ha (hp_none w)
end
theorem below_on {w w1 w2 : World} (h : Below w.heap.size w w1) (h2 : Below w1.heap.size w1 w2) : Below w.heap.size w w2 :=
  ⟨h2.os.trans h.os, h2.tape.trans h.tape, h2.output.trans h.output, Nat.le_trans h.size h2.size, fun k hk => (h2.block k (Nat.lt_of_lt_of_le hk h.size)).trans (h.block k hk)⟩
end Go.Proofs.YtlpbjmbgopfkhaaGreat.V
