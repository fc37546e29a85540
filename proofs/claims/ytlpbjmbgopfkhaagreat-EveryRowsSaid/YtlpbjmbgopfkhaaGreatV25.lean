/- A small calculus of symbolic states, part 25: what holds in every memory of the state holds. No program in sight. -/
import Derived.Test.YtlpbjmbgopfkhaaGreatV24
namespace Go.Proofs.YtlpbjmbgopfkhaaGreat.V
open Go Go.RowKit
theorem LW.know {P : Program} {n : Nat} {B : Base} {ops : Array Oper} {Q : Exit → Act → World → Prop} {l : List Oper} {ks : Ks} {sg : Sg} (φ : Prop) (h : ∀ w, Hp B sg w → φ) (k : φ → LW P n B ops Q l ks sg) : LW P n B ops Q l ks sg := fun a w ha hw => k (h w hw) a w ha hw
theorem CW.know {P : Program} {n : Nat} {B : Base} {Q : Exit → Act → World → Prop} {c : Code} {ks : Ks} {sg : Sg} (φ : Prop) (h : ∀ w, Hp B sg w → φ) (k : φ → CW P n B Q c ks sg) : CW P n B Q c ks sg := fun a w ha hw => k (h w hw) a w ha hw
theorem PQ.know {n : Nat} {B : Base} {Q : Exit → Act → World → Prop} {x : Exit} {ks : Ks} {sg : Sg} (φ : Prop) (h : ∀ w, Hp B sg w → φ) (k : φ → PQ n B Q x ks sg) : PQ n B Q x ks sg := fun a w ha hw => k (h w hw) a w ha hw
end Go.Proofs.YtlpbjmbgopfkhaaGreat.V
