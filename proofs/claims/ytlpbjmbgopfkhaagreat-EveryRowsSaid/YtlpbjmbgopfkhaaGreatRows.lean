/-
  NARROWER THAN 'FOR EVERY INPUT', by the rows' own cells (each row's printed sentence says how): EveryRows: loops · EveryOrders: loops.
  DERIVED. THE GIVEN ROWS OF THIS SEAT. 4 by the template 'for every input the law returns true; each argument reads behind the call as it read before'; 0 by the template 'total and deterministic' (their statements: YtlpbjmbgopfkhaaGreatTotals.lean).
  GIVEN WITH THE SEED: the statements are not yours to turn. If you find one false, say at which input.
  Laid BY PROGRAM, IN A SANDBOX (cutbox-rows.mjs): the forced cells as the released guide's own fill.sh prints them over the translation 4685f7cb6d2e084b… (all of the seat's roots in one cut). By AI agents, Wed Nov 11 2026. No macro, syntax, notation, axiom, sorry.
-/
import Derived.Test.YtlpbjmbgopfkhaaGreatChecked
import GoSem.Claim
import GoSem.ClaimJoined
import GoSem.ClaimMapViews
import Derived.JoinedTies
import Derived.KernelRfl
namespace Go.Proofs.YtlpbjmbgopfkhaaGreat
/- THE CELL 'sum', in the pinned program and in every row, IS THE sha256 OF THE DUMP (.gsa) THAT YtlpbjmbgopfkhaaGreatProg.lean LOADS. Nothing in Lean hashes anything: it is a label: what it is worth is what the hold of that sum in a sandbox is worth. -/
noncomputable def Tryz.pinned : Pinned := { name := "ytlpbjmbgopfkhaagreat", sum := "4685f7cb6d2e084b46492f90da92d938df8b1d76782a710cb4385f9a62a93585", checked := Tryz.checked }
namespace Rows
def none {H : Type} : Left H := { results := [], args := [] }

/-- 'fuseelaw30.EveryRows': WHATEVER THE INPUT: true; the input reads as it did. -/
def everyRowsSpec : ChangeSpec := { name := "everyRows", fn := fun _ => fun
  | [d] => { results := [.lit (.bool true)], args := [d] }
  | _ => none }
def everyRowsRow : OpenClaim := { program := "ytlpbjmbgopfkhaagreat", sum := "4685f7cb6d2e084b46492f90da92d938df8b1d76782a710cb4385f9a62a93585", func := "fusee/fuseelaw30.EveryRows", spec := "everyRows", inPlace := ["sync/atomic.StoreUint64", "sync/atomic.AddInt64", "sync/atomic.LoadUint32", "(*internal/sync.Mutex).Lock", "internal/race.Disable", "sync/atomic.CompareAndSwapInt32", "internal/race.Enable", "internal/race.Acquire", "(*internal/sync.Mutex).lockSlow", "internal/sync.runtime_canSpin", "internal/sync.runtime_doSpin", "internal/sync.throw", "internal/sync.runtime_nanotime", "internal/sync.runtime_SemacquireMutex", "sync/atomic.AddInt32", "(*internal/sync.Mutex).Unlock", "internal/race.ReleaseMerge", "(*internal/sync.Mutex).unlockSlow", "internal/sync.fatal", "internal/sync.runtime_Semrelease", "sync/atomic.StoreUint32", "sync/atomic.LoadUint64", "sync/atomic.CompareAndSwapUint64", "internal/bytealg.abigen_runtime_cmpstring", "sync/atomic.AddUint64", "slices.overlaps[fusee/api.Link]", "sync/atomic.SwapUint64", "sync/atomic.LoadInt64", "sync/atomic.StoreInt64", "slices.overlaps[fusee/api.Pair]"], unfollowed := true, recurses := true, loops := true, plainKeys := false, apart := false }
def EveryRowsSaid : Prop := everyRowsRow.holds Tryz.pinned (OpenSpec.ofChange everyRowsSpec)

/-- ITS FALSE NEIGHBOUR: 'it returns false'. Refute it at one input. -/
def everyRowsWrong : ChangeSpec := { name := "everyRows", fn := fun _ => fun
  | [d] => { results := [.lit (.bool false)], args := [d] }
  | _ => none }
def EveryRowsWrongFalsely : Prop := everyRowsRow.holds Tryz.pinned (OpenSpec.ofChange everyRowsWrong)

/-- 'fuseelaw30.EveryApart': WHATEVER THE INPUT: true; the input reads as it did. -/
def everyApartSpec : ChangeSpec := { name := "everyApart", fn := fun _ => fun
  | [d] => { results := [.lit (.bool true)], args := [d] }
  | _ => none }
def everyApartRow : OpenClaim := { program := "ytlpbjmbgopfkhaagreat", sum := "4685f7cb6d2e084b46492f90da92d938df8b1d76782a710cb4385f9a62a93585", func := "fusee/fuseelaw30.EveryApart", spec := "everyApart", inPlace := ["sync/atomic.StoreUint64", "sync/atomic.AddInt64", "sync/atomic.LoadUint32", "(*internal/sync.Mutex).Lock", "internal/race.Disable", "sync/atomic.CompareAndSwapInt32", "internal/race.Enable", "internal/race.Acquire", "(*internal/sync.Mutex).lockSlow", "internal/sync.runtime_canSpin", "internal/sync.runtime_doSpin", "internal/sync.throw", "internal/sync.runtime_nanotime", "internal/sync.runtime_SemacquireMutex", "sync/atomic.AddInt32", "(*internal/sync.Mutex).Unlock", "internal/race.ReleaseMerge", "(*internal/sync.Mutex).unlockSlow", "internal/sync.fatal", "internal/sync.runtime_Semrelease", "sync/atomic.StoreUint32", "sync/atomic.LoadUint64", "sync/atomic.CompareAndSwapUint64", "internal/bytealg.abigen_runtime_cmpstring", "sync/atomic.AddUint64", "slices.overlaps[fusee/api.Link]", "sync/atomic.SwapUint64", "sync/atomic.LoadInt64", "sync/atomic.StoreInt64", "slices.overlaps[fusee/api.Pair]"], unfollowed := true, recurses := true, plainKeys := false, apart := false }
def EveryApartSaid : Prop := everyApartRow.holds Tryz.pinned (OpenSpec.ofChange everyApartSpec)

/-- ITS FALSE NEIGHBOUR: 'it returns false'. Refute it at one input. -/
def everyApartWrong : ChangeSpec := { name := "everyApart", fn := fun _ => fun
  | [d] => { results := [.lit (.bool false)], args := [d] }
  | _ => none }
def EveryApartWrongFalsely : Prop := everyApartRow.holds Tryz.pinned (OpenSpec.ofChange everyApartWrong)

/-- 'fuseelaw30.EveryAmong': WHATEVER THE INPUT: true; the input reads as it did. -/
def everyAmongSpec : ChangeSpec := { name := "everyAmong", fn := fun _ => fun
  | [d1, d2] => { results := [.lit (.bool true)], args := [d1, d2] }
  | _ => none }
def everyAmongRow : OpenClaim := { program := "ytlpbjmbgopfkhaagreat", sum := "4685f7cb6d2e084b46492f90da92d938df8b1d76782a710cb4385f9a62a93585", func := "fusee/fuseelaw30.EveryAmong", spec := "everyAmong", inPlace := ["sync/atomic.StoreUint64", "sync/atomic.AddInt64", "sync/atomic.LoadUint32", "(*internal/sync.Mutex).Lock", "internal/race.Disable", "sync/atomic.CompareAndSwapInt32", "internal/race.Enable", "internal/race.Acquire", "(*internal/sync.Mutex).lockSlow", "internal/sync.runtime_canSpin", "internal/sync.runtime_doSpin", "internal/sync.throw", "internal/sync.runtime_nanotime", "internal/sync.runtime_SemacquireMutex", "sync/atomic.AddInt32", "(*internal/sync.Mutex).Unlock", "internal/race.ReleaseMerge", "(*internal/sync.Mutex).unlockSlow", "internal/sync.fatal", "internal/sync.runtime_Semrelease", "sync/atomic.StoreUint32", "sync/atomic.LoadUint64", "sync/atomic.CompareAndSwapUint64", "internal/bytealg.abigen_runtime_cmpstring", "sync/atomic.AddUint64", "slices.overlaps[fusee/api.Link]", "sync/atomic.SwapUint64", "sync/atomic.LoadInt64", "sync/atomic.StoreInt64", "slices.overlaps[fusee/api.Pair]"], unfollowed := true, recurses := true, plainKeys := false, apart := false }
def EveryAmongSaid : Prop := everyAmongRow.holds Tryz.pinned (OpenSpec.ofChange everyAmongSpec)

/-- ITS FALSE NEIGHBOUR: 'it returns false'. Refute it at one input. -/
def everyAmongWrong : ChangeSpec := { name := "everyAmong", fn := fun _ => fun
  | [d1, d2] => { results := [.lit (.bool false)], args := [d1, d2] }
  | _ => none }
def EveryAmongWrongFalsely : Prop := everyAmongRow.holds Tryz.pinned (OpenSpec.ofChange everyAmongWrong)

/-- 'fuseelaw30.EveryOrders': WHATEVER THE INPUT: true; the input reads as it did. -/
def everyOrdersSpec : ChangeSpec := { name := "everyOrders", fn := fun _ => fun
  | [d] => { results := [.lit (.bool true)], args := [d] }
  | _ => none }
def everyOrdersRow : OpenClaim := { program := "ytlpbjmbgopfkhaagreat", sum := "4685f7cb6d2e084b46492f90da92d938df8b1d76782a710cb4385f9a62a93585", func := "fusee/fuseelaw30.EveryOrders", spec := "everyOrders", inPlace := ["sync/atomic.StoreUint64", "sync/atomic.AddInt64", "sync/atomic.LoadUint32", "(*internal/sync.Mutex).Lock", "internal/race.Disable", "sync/atomic.CompareAndSwapInt32", "internal/race.Enable", "internal/race.Acquire", "(*internal/sync.Mutex).lockSlow", "internal/sync.runtime_canSpin", "internal/sync.runtime_doSpin", "internal/sync.throw", "internal/sync.runtime_nanotime", "internal/sync.runtime_SemacquireMutex", "sync/atomic.AddInt32", "(*internal/sync.Mutex).Unlock", "internal/race.ReleaseMerge", "(*internal/sync.Mutex).unlockSlow", "internal/sync.fatal", "internal/sync.runtime_Semrelease", "sync/atomic.StoreUint32", "sync/atomic.LoadUint64", "sync/atomic.CompareAndSwapUint64", "internal/bytealg.abigen_runtime_cmpstring", "sync/atomic.AddUint64", "slices.overlaps[fusee/api.Link]", "sync/atomic.SwapUint64", "sync/atomic.LoadInt64", "sync/atomic.StoreInt64", "slices.overlaps[fusee/api.Pair]"], unfollowed := true, recurses := true, loops := true, plainKeys := false, apart := false }
def EveryOrdersSaid : Prop := everyOrdersRow.holds Tryz.pinned (OpenSpec.ofChange everyOrdersSpec)

/-- ITS FALSE NEIGHBOUR: 'it returns false'. Refute it at one input. -/
def everyOrdersWrong : ChangeSpec := { name := "everyOrders", fn := fun _ => fun
  | [d] => { results := [.lit (.bool false)], args := [d] }
  | _ => none }
def EveryOrdersWrongFalsely : Prop := everyOrdersRow.holds Tryz.pinned (OpenSpec.ofChange everyOrdersWrong)

/- THE SECOND FORM. 'bulk': how many values and letters a reading holds, each counted each time it is reached (what is shared counts as often as it is met; a slice's spare places count too). A statement '..UptoSaid' is the law's where the arguments, and the package variables that the reading takes, are together of bulk at most 1048576: NARROWER than '..Said'. Prove '..Said' where nothing that the law and all that it calls make is longer than what came in: it says more and counts as full. Else prove '..UptoSaid'. A law counts once. -/
mutual
def uptoBulk {H : Type} : DataW H → Nat
  | .lit (.string bytes) => bytes.length + 1
  | .lit _ => 1
  | .nil => 1
  | .ptr d => uptoBulk d + 1
  | .slice elems spare => uptoBulkAll elems + uptoBulkAll spare + 1
  | .agg parts => uptoBulkAll parts + 1
  | .iface _ d => uptoBulk d + 1
  | .map entries => uptoBulkEntries entries + 1
  | .held _ => 1
def uptoBulkAll {H : Type} : List (DataW H) → Nat
  | [] => 0
  | d :: r => uptoBulk d + uptoBulkAll r
def uptoBulkEntries {H : Type} : List (Lit × DataW H) → Nat
  | [] => 0
  | x :: r => uptoBulkEntry x + uptoBulkEntries r
def uptoBulkEntry {H : Type} : Lit × DataW H → Nat
  | (.string bytes, d) => bytes.length + uptoBulk d + 1
  | (_, d) => uptoBulk d + 1
 end
def uptoSmall : (H : Type) → List (DataW H) → Bool := fun _ ds => decide (uptoBulkAll ds ≤ 1048576)
def OpenSpec.upto (s : _root_.Go.ChangeSpec) : _root_.Go.OpenSpec := { _root_.Go.OpenSpec.ofChange s with cond := some uptoSmall }

/-- 'fuseelaw30.EveryRows', WHERE WHAT IT READS IS OF BULK AT MOST 1048576: true; the input reads as it did. -/
def everyRowsUptoRow : OpenClaim := { program := "ytlpbjmbgopfkhaagreat", sum := "4685f7cb6d2e084b46492f90da92d938df8b1d76782a710cb4385f9a62a93585", func := "fusee/fuseelaw30.EveryRows", spec := "everyRows", inPlace := ["sync/atomic.StoreUint64", "sync/atomic.AddInt64", "sync/atomic.LoadUint32", "(*internal/sync.Mutex).Lock", "internal/race.Disable", "sync/atomic.CompareAndSwapInt32", "internal/race.Enable", "internal/race.Acquire", "(*internal/sync.Mutex).lockSlow", "internal/sync.runtime_canSpin", "internal/sync.runtime_doSpin", "internal/sync.throw", "internal/sync.runtime_nanotime", "internal/sync.runtime_SemacquireMutex", "sync/atomic.AddInt32", "(*internal/sync.Mutex).Unlock", "internal/race.ReleaseMerge", "(*internal/sync.Mutex).unlockSlow", "internal/sync.fatal", "internal/sync.runtime_Semrelease", "sync/atomic.StoreUint32", "sync/atomic.LoadUint64", "sync/atomic.CompareAndSwapUint64", "internal/bytealg.abigen_runtime_cmpstring", "sync/atomic.AddUint64", "slices.overlaps[fusee/api.Link]", "sync/atomic.SwapUint64", "sync/atomic.LoadInt64", "sync/atomic.StoreInt64", "slices.overlaps[fusee/api.Pair]"], unfollowed := true, recurses := true, loops := true, plainKeys := false, apart := false, narrowed := true }
def EveryRowsUptoSaid : Prop := everyRowsUptoRow.holds Tryz.pinned (OpenSpec.upto everyRowsSpec)

/-- 'fuseelaw30.EveryApart', WHERE WHAT IT READS IS OF BULK AT MOST 1048576: true; the input reads as it did. -/
def everyApartUptoRow : OpenClaim := { program := "ytlpbjmbgopfkhaagreat", sum := "4685f7cb6d2e084b46492f90da92d938df8b1d76782a710cb4385f9a62a93585", func := "fusee/fuseelaw30.EveryApart", spec := "everyApart", inPlace := ["sync/atomic.StoreUint64", "sync/atomic.AddInt64", "sync/atomic.LoadUint32", "(*internal/sync.Mutex).Lock", "internal/race.Disable", "sync/atomic.CompareAndSwapInt32", "internal/race.Enable", "internal/race.Acquire", "(*internal/sync.Mutex).lockSlow", "internal/sync.runtime_canSpin", "internal/sync.runtime_doSpin", "internal/sync.throw", "internal/sync.runtime_nanotime", "internal/sync.runtime_SemacquireMutex", "sync/atomic.AddInt32", "(*internal/sync.Mutex).Unlock", "internal/race.ReleaseMerge", "(*internal/sync.Mutex).unlockSlow", "internal/sync.fatal", "internal/sync.runtime_Semrelease", "sync/atomic.StoreUint32", "sync/atomic.LoadUint64", "sync/atomic.CompareAndSwapUint64", "internal/bytealg.abigen_runtime_cmpstring", "sync/atomic.AddUint64", "slices.overlaps[fusee/api.Link]", "sync/atomic.SwapUint64", "sync/atomic.LoadInt64", "sync/atomic.StoreInt64", "slices.overlaps[fusee/api.Pair]"], unfollowed := true, recurses := true, plainKeys := false, apart := false, narrowed := true }
def EveryApartUptoSaid : Prop := everyApartUptoRow.holds Tryz.pinned (OpenSpec.upto everyApartSpec)

/-- 'fuseelaw30.EveryAmong', WHERE WHAT IT READS IS OF BULK AT MOST 1048576: true; the input reads as it did. -/
def everyAmongUptoRow : OpenClaim := { program := "ytlpbjmbgopfkhaagreat", sum := "4685f7cb6d2e084b46492f90da92d938df8b1d76782a710cb4385f9a62a93585", func := "fusee/fuseelaw30.EveryAmong", spec := "everyAmong", inPlace := ["sync/atomic.StoreUint64", "sync/atomic.AddInt64", "sync/atomic.LoadUint32", "(*internal/sync.Mutex).Lock", "internal/race.Disable", "sync/atomic.CompareAndSwapInt32", "internal/race.Enable", "internal/race.Acquire", "(*internal/sync.Mutex).lockSlow", "internal/sync.runtime_canSpin", "internal/sync.runtime_doSpin", "internal/sync.throw", "internal/sync.runtime_nanotime", "internal/sync.runtime_SemacquireMutex", "sync/atomic.AddInt32", "(*internal/sync.Mutex).Unlock", "internal/race.ReleaseMerge", "(*internal/sync.Mutex).unlockSlow", "internal/sync.fatal", "internal/sync.runtime_Semrelease", "sync/atomic.StoreUint32", "sync/atomic.LoadUint64", "sync/atomic.CompareAndSwapUint64", "internal/bytealg.abigen_runtime_cmpstring", "sync/atomic.AddUint64", "slices.overlaps[fusee/api.Link]", "sync/atomic.SwapUint64", "sync/atomic.LoadInt64", "sync/atomic.StoreInt64", "slices.overlaps[fusee/api.Pair]"], unfollowed := true, recurses := true, plainKeys := false, apart := false, narrowed := true }
def EveryAmongUptoSaid : Prop := everyAmongUptoRow.holds Tryz.pinned (OpenSpec.upto everyAmongSpec)

/-- 'fuseelaw30.EveryOrders', WHERE WHAT IT READS IS OF BULK AT MOST 1048576: true; the input reads as it did. -/
def everyOrdersUptoRow : OpenClaim := { program := "ytlpbjmbgopfkhaagreat", sum := "4685f7cb6d2e084b46492f90da92d938df8b1d76782a710cb4385f9a62a93585", func := "fusee/fuseelaw30.EveryOrders", spec := "everyOrders", inPlace := ["sync/atomic.StoreUint64", "sync/atomic.AddInt64", "sync/atomic.LoadUint32", "(*internal/sync.Mutex).Lock", "internal/race.Disable", "sync/atomic.CompareAndSwapInt32", "internal/race.Enable", "internal/race.Acquire", "(*internal/sync.Mutex).lockSlow", "internal/sync.runtime_canSpin", "internal/sync.runtime_doSpin", "internal/sync.throw", "internal/sync.runtime_nanotime", "internal/sync.runtime_SemacquireMutex", "sync/atomic.AddInt32", "(*internal/sync.Mutex).Unlock", "internal/race.ReleaseMerge", "(*internal/sync.Mutex).unlockSlow", "internal/sync.fatal", "internal/sync.runtime_Semrelease", "sync/atomic.StoreUint32", "sync/atomic.LoadUint64", "sync/atomic.CompareAndSwapUint64", "internal/bytealg.abigen_runtime_cmpstring", "sync/atomic.AddUint64", "slices.overlaps[fusee/api.Link]", "sync/atomic.SwapUint64", "sync/atomic.LoadInt64", "sync/atomic.StoreInt64", "slices.overlaps[fusee/api.Pair]"], unfollowed := true, recurses := true, loops := true, plainKeys := false, apart := false, narrowed := true }
def EveryOrdersUptoSaid : Prop := everyOrdersUptoRow.holds Tryz.pinned (OpenSpec.upto everyOrdersSpec)

end Rows
end Go.Proofs.YtlpbjmbgopfkhaaGreat
