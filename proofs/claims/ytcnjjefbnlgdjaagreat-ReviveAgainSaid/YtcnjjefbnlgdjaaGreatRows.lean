/-
  No cell of these rows narrows 'for every input' (looked for: loops, veiled, ifaces, maps, wideKeys, modest, calm, conditions, laid).
  DERIVED. THE GIVEN ROWS OF THIS SEAT. 3 by the template 'for every input the law returns true; each argument reads behind the call as it read before'; 0 by the template 'total and deterministic' (their statements: YtcnjjefbnlgdjaaGreatTotals.lean).
  GIVEN WITH THE SEED: the statements are not yours to turn. If you find one false, say at which input.
  Laid BY PROGRAM, IN A SANDBOX (cutbox-rows.mjs): the forced cells as the released guide's own fill.sh prints them over the translation aaff3a9ffa5ee3e5… (all of the seat's roots in one cut). By AI agents, Wed Nov 11 2026. No macro, syntax, notation, axiom, sorry.
-/
import Derived.Test.YtcnjjefbnlgdjaaGreatChecked
import GoSem.Claim
import GoSem.ClaimJoined
import GoSem.ClaimMapViews
import Derived.JoinedTies
import Derived.KernelRfl
namespace Go.Proofs.YtcnjjefbnlgdjaaGreat
/- THE CELL 'sum', in the pinned program and in every row, IS THE sha256 OF THE DUMP (.gsa) THAT YtcnjjefbnlgdjaaGreatProg.lean LOADS. Nothing in Lean hashes anything: it is a label: what it is worth is what the hold of that sum in a sandbox is worth. -/
noncomputable def Tryz.pinned : Pinned := { name := "ytcnjjefbnlgdjaagreat", sum := "aaff3a9ffa5ee3e50969da0fcaf56fc403fb2223036980bb66e9a59de980429a", checked := Tryz.checked }
namespace Rows
def none {H : Type} : Left H := { results := [], args := [] }

/-- 'fuseelaw22.ReviveClean': WHATEVER THE INPUT: true; the input reads as it did. -/
def reviveCleanSpec : ChangeSpec := { name := "reviveClean", fn := fun _ => fun
  | [d1, d2] => { results := [.lit (.bool true)], args := [d1, d2] }
  | _ => none }
def reviveCleanRow : OpenClaim := { program := "ytcnjjefbnlgdjaagreat", sum := "aaff3a9ffa5ee3e50969da0fcaf56fc403fb2223036980bb66e9a59de980429a", func := "fusee/fuseelaw22.ReviveClean", spec := "reviveClean", inPlace := ["sync/atomic.AddInt64", "sync/atomic.StoreUint64", "internal/bytealg.abigen_runtime_cmpstring", "slices.overlaps[fusee/api.Link]", "sync/atomic.LoadUint64", "sync/atomic.LoadUint32", "(*internal/sync.Mutex).Lock", "internal/race.Disable", "sync/atomic.CompareAndSwapInt32", "internal/race.Enable", "internal/race.Acquire", "(*internal/sync.Mutex).lockSlow", "internal/sync.runtime_canSpin", "internal/sync.runtime_doSpin", "internal/sync.throw", "internal/sync.runtime_nanotime", "internal/sync.runtime_SemacquireMutex", "sync/atomic.AddInt32", "(*internal/sync.Mutex).Unlock", "internal/race.ReleaseMerge", "(*internal/sync.Mutex).unlockSlow", "internal/sync.fatal", "internal/sync.runtime_Semrelease", "sync/atomic.StoreUint32", "sync/atomic.LoadInt64", "sync/atomic.StoreInt64"], unfollowed := true, recurses := true, apart := false }
def ReviveCleanSaid : Prop := reviveCleanRow.holds Tryz.pinned (OpenSpec.ofChange reviveCleanSpec)

/-- ITS FALSE NEIGHBOUR: 'it returns false'. Refute it at one input. -/
def reviveCleanWrong : ChangeSpec := { name := "reviveClean", fn := fun _ => fun
  | [d1, d2] => { results := [.lit (.bool false)], args := [d1, d2] }
  | _ => none }
def ReviveCleanWrongFalsely : Prop := reviveCleanRow.holds Tryz.pinned (OpenSpec.ofChange reviveCleanWrong)

/-- 'fuseelaw22.ReviveCuts': WHATEVER THE INPUT: true; the input reads as it did. -/
def reviveCutsSpec : ChangeSpec := { name := "reviveCuts", fn := fun _ => fun
  | [d1, d2, d3, d4] => { results := [.lit (.bool true)], args := [d1, d2, d3, d4] }
  | _ => none }
def reviveCutsRow : OpenClaim := { program := "ytcnjjefbnlgdjaagreat", sum := "aaff3a9ffa5ee3e50969da0fcaf56fc403fb2223036980bb66e9a59de980429a", func := "fusee/fuseelaw22.ReviveCuts", spec := "reviveCuts", inPlace := ["sync/atomic.AddInt64", "sync/atomic.StoreUint64", "internal/bytealg.abigen_runtime_cmpstring", "slices.overlaps[fusee/api.Link]", "sync/atomic.LoadUint64", "sync/atomic.LoadUint32", "(*internal/sync.Mutex).Lock", "internal/race.Disable", "sync/atomic.CompareAndSwapInt32", "internal/race.Enable", "internal/race.Acquire", "(*internal/sync.Mutex).lockSlow", "internal/sync.runtime_canSpin", "internal/sync.runtime_doSpin", "internal/sync.throw", "internal/sync.runtime_nanotime", "internal/sync.runtime_SemacquireMutex", "sync/atomic.AddInt32", "(*internal/sync.Mutex).Unlock", "internal/race.ReleaseMerge", "(*internal/sync.Mutex).unlockSlow", "internal/sync.fatal", "internal/sync.runtime_Semrelease", "sync/atomic.StoreUint32", "sync/atomic.LoadInt64", "sync/atomic.StoreInt64"], unfollowed := true, recurses := true, apart := false }
def ReviveCutsSaid : Prop := reviveCutsRow.holds Tryz.pinned (OpenSpec.ofChange reviveCutsSpec)

/-- ITS FALSE NEIGHBOUR: 'it returns false'. Refute it at one input. -/
def reviveCutsWrong : ChangeSpec := { name := "reviveCuts", fn := fun _ => fun
  | [d1, d2, d3, d4] => { results := [.lit (.bool false)], args := [d1, d2, d3, d4] }
  | _ => none }
def ReviveCutsWrongFalsely : Prop := reviveCutsRow.holds Tryz.pinned (OpenSpec.ofChange reviveCutsWrong)

/-- 'fuseelaw22.ReviveAgain': WHATEVER THE INPUT: true; the input reads as it did. -/
def reviveAgainSpec : ChangeSpec := { name := "reviveAgain", fn := fun _ => fun
  | [d1, d2, d3] => { results := [.lit (.bool true)], args := [d1, d2, d3] }
  | _ => none }
def reviveAgainRow : OpenClaim := { program := "ytcnjjefbnlgdjaagreat", sum := "aaff3a9ffa5ee3e50969da0fcaf56fc403fb2223036980bb66e9a59de980429a", func := "fusee/fuseelaw22.ReviveAgain", spec := "reviveAgain", inPlace := ["sync/atomic.AddInt64", "sync/atomic.StoreUint64", "internal/bytealg.abigen_runtime_cmpstring", "slices.overlaps[fusee/api.Link]", "sync/atomic.LoadUint64", "sync/atomic.LoadUint32", "(*internal/sync.Mutex).Lock", "internal/race.Disable", "sync/atomic.CompareAndSwapInt32", "internal/race.Enable", "internal/race.Acquire", "(*internal/sync.Mutex).lockSlow", "internal/sync.runtime_canSpin", "internal/sync.runtime_doSpin", "internal/sync.throw", "internal/sync.runtime_nanotime", "internal/sync.runtime_SemacquireMutex", "sync/atomic.AddInt32", "(*internal/sync.Mutex).Unlock", "internal/race.ReleaseMerge", "(*internal/sync.Mutex).unlockSlow", "internal/sync.fatal", "internal/sync.runtime_Semrelease", "sync/atomic.StoreUint32"], unfollowed := true, recurses := true, apart := false }
def ReviveAgainSaid : Prop := reviveAgainRow.holds Tryz.pinned (OpenSpec.ofChange reviveAgainSpec)

/-- ITS FALSE NEIGHBOUR: 'it returns false'. Refute it at one input. -/
def reviveAgainWrong : ChangeSpec := { name := "reviveAgain", fn := fun _ => fun
  | [d1, d2, d3] => { results := [.lit (.bool false)], args := [d1, d2, d3] }
  | _ => none }
def ReviveAgainWrongFalsely : Prop := reviveAgainRow.holds Tryz.pinned (OpenSpec.ofChange reviveAgainWrong)

/- THE SECOND FORM. 'bulk': how many values and letters a reading holds, each counted each time it is reached (what is shared counts as often as it is met; a slice's spare places count too). A statement '..UptoSaid' is the law's where the arguments, and the package variables that the reading takes, are together of bulk at most 1048576: NARROWER than '..Said'. Prove '..Said' where nothing that the law and all that it calls make is longer than what came in: it says more and counts as full. Else prove '..UptoSaid'. A law counts once. -/
mutual
def uptoBulk {H : Type} : DataW H → Nat
  | .lit (.string bytes) => bytes.length + 1
  | .lit _ => 1
  | .nil => 1
  | .ptr d => uptoBulk d + 1
  | .slice elems spare => uptoBulkAll elems + uptoBulkAll spare + 1
  | .agg parts => uptoBulkAll parts + 1
  | .iface _ d => uptoBulk d + 1
  | .map entries => uptoBulkEntries entries + 1
  | .held _ => 1
def uptoBulkAll {H : Type} : List (DataW H) → Nat
  | [] => 0
  | d :: r => uptoBulk d + uptoBulkAll r
def uptoBulkEntries {H : Type} : List (Lit × DataW H) → Nat
  | [] => 0
  | x :: r => uptoBulkEntry x + uptoBulkEntries r
def uptoBulkEntry {H : Type} : Lit × DataW H → Nat
  | (.string bytes, d) => bytes.length + uptoBulk d + 1
  | (_, d) => uptoBulk d + 1
 end
def uptoSmall : (H : Type) → List (DataW H) → Bool := fun _ ds => decide (uptoBulkAll ds ≤ 1048576)
def OpenSpec.upto (s : _root_.Go.ChangeSpec) : _root_.Go.OpenSpec := { _root_.Go.OpenSpec.ofChange s with cond := some uptoSmall }

/-- 'fuseelaw22.ReviveClean', WHERE WHAT IT READS IS OF BULK AT MOST 1048576: true; the input reads as it did. -/
def reviveCleanUptoRow : OpenClaim := { program := "ytcnjjefbnlgdjaagreat", sum := "aaff3a9ffa5ee3e50969da0fcaf56fc403fb2223036980bb66e9a59de980429a", func := "fusee/fuseelaw22.ReviveClean", spec := "reviveClean", inPlace := ["sync/atomic.AddInt64", "sync/atomic.StoreUint64", "internal/bytealg.abigen_runtime_cmpstring", "slices.overlaps[fusee/api.Link]", "sync/atomic.LoadUint64", "sync/atomic.LoadUint32", "(*internal/sync.Mutex).Lock", "internal/race.Disable", "sync/atomic.CompareAndSwapInt32", "internal/race.Enable", "internal/race.Acquire", "(*internal/sync.Mutex).lockSlow", "internal/sync.runtime_canSpin", "internal/sync.runtime_doSpin", "internal/sync.throw", "internal/sync.runtime_nanotime", "internal/sync.runtime_SemacquireMutex", "sync/atomic.AddInt32", "(*internal/sync.Mutex).Unlock", "internal/race.ReleaseMerge", "(*internal/sync.Mutex).unlockSlow", "internal/sync.fatal", "internal/sync.runtime_Semrelease", "sync/atomic.StoreUint32", "sync/atomic.LoadInt64", "sync/atomic.StoreInt64"], unfollowed := true, recurses := true, apart := false, narrowed := true }
def ReviveCleanUptoSaid : Prop := reviveCleanUptoRow.holds Tryz.pinned (OpenSpec.upto reviveCleanSpec)

/-- 'fuseelaw22.ReviveCuts', WHERE WHAT IT READS IS OF BULK AT MOST 1048576: true; the input reads as it did. -/
def reviveCutsUptoRow : OpenClaim := { program := "ytcnjjefbnlgdjaagreat", sum := "aaff3a9ffa5ee3e50969da0fcaf56fc403fb2223036980bb66e9a59de980429a", func := "fusee/fuseelaw22.ReviveCuts", spec := "reviveCuts", inPlace := ["sync/atomic.AddInt64", "sync/atomic.StoreUint64", "internal/bytealg.abigen_runtime_cmpstring", "slices.overlaps[fusee/api.Link]", "sync/atomic.LoadUint64", "sync/atomic.LoadUint32", "(*internal/sync.Mutex).Lock", "internal/race.Disable", "sync/atomic.CompareAndSwapInt32", "internal/race.Enable", "internal/race.Acquire", "(*internal/sync.Mutex).lockSlow", "internal/sync.runtime_canSpin", "internal/sync.runtime_doSpin", "internal/sync.throw", "internal/sync.runtime_nanotime", "internal/sync.runtime_SemacquireMutex", "sync/atomic.AddInt32", "(*internal/sync.Mutex).Unlock", "internal/race.ReleaseMerge", "(*internal/sync.Mutex).unlockSlow", "internal/sync.fatal", "internal/sync.runtime_Semrelease", "sync/atomic.StoreUint32", "sync/atomic.LoadInt64", "sync/atomic.StoreInt64"], unfollowed := true, recurses := true, apart := false, narrowed := true }
def ReviveCutsUptoSaid : Prop := reviveCutsUptoRow.holds Tryz.pinned (OpenSpec.upto reviveCutsSpec)

/-- 'fuseelaw22.ReviveAgain', WHERE WHAT IT READS IS OF BULK AT MOST 1048576: true; the input reads as it did. -/
def reviveAgainUptoRow : OpenClaim := { program := "ytcnjjefbnlgdjaagreat", sum := "aaff3a9ffa5ee3e50969da0fcaf56fc403fb2223036980bb66e9a59de980429a", func := "fusee/fuseelaw22.ReviveAgain", spec := "reviveAgain", inPlace := ["sync/atomic.AddInt64", "sync/atomic.StoreUint64", "internal/bytealg.abigen_runtime_cmpstring", "slices.overlaps[fusee/api.Link]", "sync/atomic.LoadUint64", "sync/atomic.LoadUint32", "(*internal/sync.Mutex).Lock", "internal/race.Disable", "sync/atomic.CompareAndSwapInt32", "internal/race.Enable", "internal/race.Acquire", "(*internal/sync.Mutex).lockSlow", "internal/sync.runtime_canSpin", "internal/sync.runtime_doSpin", "internal/sync.throw", "internal/sync.runtime_nanotime", "internal/sync.runtime_SemacquireMutex", "sync/atomic.AddInt32", "(*internal/sync.Mutex).Unlock", "internal/race.ReleaseMerge", "(*internal/sync.Mutex).unlockSlow", "internal/sync.fatal", "internal/sync.runtime_Semrelease", "sync/atomic.StoreUint32"], unfollowed := true, recurses := true, apart := false, narrowed := true }
def ReviveAgainUptoSaid : Prop := reviveAgainUptoRow.holds Tryz.pinned (OpenSpec.upto reviveAgainSpec)

end Rows
end Go.Proofs.YtcnjjefbnlgdjaaGreat
