/- A small calculus of symbolic states, part 20: a nil slice of one's own. No program in sight. -/
import Derived.Test.YtlpbjmbgopfkhaaGreatV19
namespace Go.Proofs.YtlpbjmbgopfkhaaGreat.V
open Go Go.RowKit
theorem CW.addOwn {P : Program} {n : Nat} {B : Base} {Q : Exit → Act → World → Prop} {ks : Ks} {sg : Sg} {e : Code} (t : TypeId) (h : CW P n B Q e ks (ownG t [] none :: sg)) : CW P n B Q e ks sg := CW.perm h (.refl _)
end Go.Proofs.YtlpbjmbgopfkhaaGreat.V
