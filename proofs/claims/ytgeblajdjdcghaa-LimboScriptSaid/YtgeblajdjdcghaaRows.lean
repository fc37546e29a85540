/-
  NARROWER THAN 'FOR EVERY INPUT', by the rows' own cells (each row's printed sentence says how): StoryBefore: loops · StoryOrder: loops.
  DERIVED. THE GIVEN ROWS OF THIS SEAT. 12 by the template 'for every input the law returns true; each argument reads behind the call as it read before'; 0 by the template 'total and deterministic' (their statements: YtgeblajdjdcghaaTotals.lean).
  GIVEN WITH THE SEED: the statements are not yours to turn. If you find one false, say at which input.
  Laid BY PROGRAM, IN A SANDBOX (cutbox-rows.mjs): the forced cells as the released guide's own fill.sh prints them over the translation a03d9219fd49f11f… (all of the seat's roots in one cut). By AI agents, Wed Nov 11 2026. No macro, syntax, notation, axiom, sorry.
-/
import Derived.Test.YtgeblajdjdcghaaChecked
import GoSem.Claim
import GoSem.ClaimJoined
import GoSem.ClaimMapViews
import Derived.JoinedTies
import Derived.KernelRfl
namespace Go.Proofs.Ytgeblajdjdcghaa
/- THE CELL 'sum', in the pinned program and in every row, IS THE sha256 OF THE DUMP (.gsa) THAT YtgeblajdjdcghaaProg.lean LOADS. Nothing in Lean hashes anything: it is a label: what it is worth is what the hold of that sum in a sandbox is worth. -/
noncomputable def Try.pinned : Pinned := { name := "ytgeblajdjdcghaa", sum := "a03d9219fd49f11f98fea8f51b9cf9130b313079a8109cd1fd4e2210092cf5f2", checked := Try.checked }
namespace Rows
def none {H : Type} : Left H := { results := [], args := [] }

/-- 'fuseelaw24.StoryBefore': WHATEVER THE INPUT: true; the input reads as it did. -/
def storyBeforeSpec : ChangeSpec := { name := "storyBefore", fn := fun _ => fun
  | [d1, d2] => { results := [.lit (.bool true)], args := [d1, d2] }
  | _ => none }
def storyBeforeRow : OpenClaim := { program := "ytgeblajdjdcghaa", sum := "a03d9219fd49f11f98fea8f51b9cf9130b313079a8109cd1fd4e2210092cf5f2", func := "fusee/fuseelaw24.StoryBefore", spec := "storyBefore", loops := true, apart := false }
def StoryBeforeSaid : Prop := storyBeforeRow.holds Try.pinned (OpenSpec.ofChange storyBeforeSpec)

/-- ITS FALSE NEIGHBOUR: 'it returns false'. Refute it at one input. -/
def storyBeforeWrong : ChangeSpec := { name := "storyBefore", fn := fun _ => fun
  | [d1, d2] => { results := [.lit (.bool false)], args := [d1, d2] }
  | _ => none }
def StoryBeforeWrongFalsely : Prop := storyBeforeRow.holds Try.pinned (OpenSpec.ofChange storyBeforeWrong)

/-- 'fuseelaw24.StoryOrder': WHATEVER THE INPUT: true; the input reads as it did. -/
def storyOrderSpec : ChangeSpec := { name := "storyOrder", fn := fun _ => fun
  | [d] => { results := [.lit (.bool true)], args := [d] }
  | _ => none }
def storyOrderRow : OpenClaim := { program := "ytgeblajdjdcghaa", sum := "a03d9219fd49f11f98fea8f51b9cf9130b313079a8109cd1fd4e2210092cf5f2", func := "fusee/fuseelaw24.StoryOrder", spec := "storyOrder", loops := true, apart := false }
def StoryOrderSaid : Prop := storyOrderRow.holds Try.pinned (OpenSpec.ofChange storyOrderSpec)

/-- ITS FALSE NEIGHBOUR: 'it returns false'. Refute it at one input. -/
def storyOrderWrong : ChangeSpec := { name := "storyOrder", fn := fun _ => fun
  | [d] => { results := [.lit (.bool false)], args := [d] }
  | _ => none }
def StoryOrderWrongFalsely : Prop := storyOrderRow.holds Try.pinned (OpenSpec.ofChange storyOrderWrong)

/-- 'fuseelaw12.TableLast': WHATEVER THE INPUT: true; the input reads as it did. -/
def tableLastSpec : ChangeSpec := { name := "tableLast", fn := fun _ => fun
  | [d1, d2] => { results := [.lit (.bool true)], args := [d1, d2] }
  | _ => none }
def tableLastRow : OpenClaim := { program := "ytgeblajdjdcghaa", sum := "a03d9219fd49f11f98fea8f51b9cf9130b313079a8109cd1fd4e2210092cf5f2", func := "fusee/fuseelaw12.TableLast", spec := "tableLast", apart := false }
def TableLastSaid : Prop := tableLastRow.holds Try.pinned (OpenSpec.ofChange tableLastSpec)

/-- ITS FALSE NEIGHBOUR: 'it returns false'. Refute it at one input. -/
def tableLastWrong : ChangeSpec := { name := "tableLast", fn := fun _ => fun
  | [d1, d2] => { results := [.lit (.bool false)], args := [d1, d2] }
  | _ => none }
def TableLastWrongFalsely : Prop := tableLastRow.holds Try.pinned (OpenSpec.ofChange tableLastWrong)

/-- 'fuseelaw8.ReaderScript': WHATEVER THE INPUT: true; the input reads as it did. -/
def readerScriptSpec : ChangeSpec := { name := "readerScript", fn := fun _ => fun
  | [d1, d2, d3] => { results := [.lit (.bool true)], args := [d1, d2, d3] }
  | _ => none }
def readerScriptRow : OpenClaim := { program := "ytgeblajdjdcghaa", sum := "a03d9219fd49f11f98fea8f51b9cf9130b313079a8109cd1fd4e2210092cf5f2", func := "fusee/fuseelaw8.ReaderScript", spec := "readerScript", inPlace := ["sync/atomic.StoreUint64", "sync/atomic.LoadUint64", "sync/atomic.CompareAndSwapUint64", "sync/atomic.AddUint64", "sync/atomic.SwapUint64"], apart := false }
def ReaderScriptSaid : Prop := readerScriptRow.holds Try.pinned (OpenSpec.ofChange readerScriptSpec)

/-- ITS FALSE NEIGHBOUR: 'it returns false'. Refute it at one input. -/
def readerScriptWrong : ChangeSpec := { name := "readerScript", fn := fun _ => fun
  | [d1, d2, d3] => { results := [.lit (.bool false)], args := [d1, d2, d3] }
  | _ => none }
def ReaderScriptWrongFalsely : Prop := readerScriptRow.holds Try.pinned (OpenSpec.ofChange readerScriptWrong)

/-- 'fuseelaw8.ReaderQuiet': WHATEVER THE INPUT: true; the input reads as it did. -/
def readerQuietSpec : ChangeSpec := { name := "readerQuiet", fn := fun _ => fun
  | [d1, d2] => { results := [.lit (.bool true)], args := [d1, d2] }
  | _ => none }
def readerQuietRow : OpenClaim := { program := "ytgeblajdjdcghaa", sum := "a03d9219fd49f11f98fea8f51b9cf9130b313079a8109cd1fd4e2210092cf5f2", func := "fusee/fuseelaw8.ReaderQuiet", spec := "readerQuiet", inPlace := ["sync/atomic.StoreUint64", "sync/atomic.LoadUint64", "sync/atomic.CompareAndSwapUint64", "sync/atomic.AddUint64", "sync/atomic.SwapUint64"], apart := false }
def ReaderQuietSaid : Prop := readerQuietRow.holds Try.pinned (OpenSpec.ofChange readerQuietSpec)

/-- ITS FALSE NEIGHBOUR: 'it returns false'. Refute it at one input. -/
def readerQuietWrong : ChangeSpec := { name := "readerQuiet", fn := fun _ => fun
  | [d1, d2] => { results := [.lit (.bool false)], args := [d1, d2] }
  | _ => none }
def ReaderQuietWrongFalsely : Prop := readerQuietRow.holds Try.pinned (OpenSpec.ofChange readerQuietWrong)

/-- 'fuseelaw8.ReaderLeast': WHATEVER THE INPUT: true; the input reads as it did. -/
def readerLeastSpec : ChangeSpec := { name := "readerLeast", fn := fun _ => fun
  | [d] => { results := [.lit (.bool true)], args := [d] }
  | _ => none }
def readerLeastRow : OpenClaim := { program := "ytgeblajdjdcghaa", sum := "a03d9219fd49f11f98fea8f51b9cf9130b313079a8109cd1fd4e2210092cf5f2", func := "fusee/fuseelaw8.ReaderLeast", spec := "readerLeast", inPlace := ["sync/atomic.StoreUint64", "sync/atomic.LoadUint64", "sync/atomic.CompareAndSwapUint64", "sync/atomic.AddUint64", "sync/atomic.SwapUint64"], apart := false }
def ReaderLeastSaid : Prop := readerLeastRow.holds Try.pinned (OpenSpec.ofChange readerLeastSpec)

/-- ITS FALSE NEIGHBOUR: 'it returns false'. Refute it at one input. -/
def readerLeastWrong : ChangeSpec := { name := "readerLeast", fn := fun _ => fun
  | [d] => { results := [.lit (.bool false)], args := [d] }
  | _ => none }
def ReaderLeastWrongFalsely : Prop := readerLeastRow.holds Try.pinned (OpenSpec.ofChange readerLeastWrong)

/-- 'fuseelaw8.ReaderNone': WHATEVER THE INPUT: true; the input reads as it did. -/
def readerNoneSpec : ChangeSpec := { name := "readerNone", fn := fun _ => fun
  | [d1, d2] => { results := [.lit (.bool true)], args := [d1, d2] }
  | _ => none }
def readerNoneRow : OpenClaim := { program := "ytgeblajdjdcghaa", sum := "a03d9219fd49f11f98fea8f51b9cf9130b313079a8109cd1fd4e2210092cf5f2", func := "fusee/fuseelaw8.ReaderNone", spec := "readerNone", inPlace := ["sync/atomic.LoadUint64", "sync/atomic.CompareAndSwapUint64", "sync/atomic.SwapUint64", "sync/atomic.AddUint64", "sync/atomic.StoreUint64"], apart := false }
def ReaderNoneSaid : Prop := readerNoneRow.holds Try.pinned (OpenSpec.ofChange readerNoneSpec)

/-- ITS FALSE NEIGHBOUR: 'it returns false'. Refute it at one input. -/
def readerNoneWrong : ChangeSpec := { name := "readerNone", fn := fun _ => fun
  | [d1, d2] => { results := [.lit (.bool false)], args := [d1, d2] }
  | _ => none }
def ReaderNoneWrongFalsely : Prop := readerNoneRow.holds Try.pinned (OpenSpec.ofChange readerNoneWrong)

/-- 'fuseelaw10.LimboFull': WHATEVER THE INPUT: true; the input reads as it did. -/
def limboFullSpec : ChangeSpec := { name := "limboFull", fn := fun _ => fun
  | [d] => { results := [.lit (.bool true)], args := [d] }
  | _ => none }
def limboFullRow : OpenClaim := { program := "ytgeblajdjdcghaa", sum := "a03d9219fd49f11f98fea8f51b9cf9130b313079a8109cd1fd4e2210092cf5f2", func := "fusee/fuseelaw10.LimboFull", spec := "limboFull", inPlace := ["sync/atomic.StoreUint64", "sync/atomic.LoadUint64"], unfollowed := true, recurses := true, apart := false }
def LimboFullSaid : Prop := limboFullRow.holds Try.pinned (OpenSpec.ofChange limboFullSpec)

/-- ITS FALSE NEIGHBOUR: 'it returns false'. Refute it at one input. -/
def limboFullWrong : ChangeSpec := { name := "limboFull", fn := fun _ => fun
  | [d] => { results := [.lit (.bool false)], args := [d] }
  | _ => none }
def LimboFullWrongFalsely : Prop := limboFullRow.holds Try.pinned (OpenSpec.ofChange limboFullWrong)

/-- 'fuseelaw10.LimboNone': WHATEVER THE INPUT: true; the input reads as it did. -/
def limboNoneSpec : ChangeSpec := { name := "limboNone", fn := fun _ => fun
  | [d] => { results := [.lit (.bool true)], args := [d] }
  | _ => none }
def limboNoneRow : OpenClaim := { program := "ytgeblajdjdcghaa", sum := "a03d9219fd49f11f98fea8f51b9cf9130b313079a8109cd1fd4e2210092cf5f2", func := "fusee/fuseelaw10.LimboNone", spec := "limboNone", inPlace := ["sync/atomic.StoreUint64", "sync/atomic.LoadUint64"], unfollowed := true, recurses := true, apart := false }
def LimboNoneSaid : Prop := limboNoneRow.holds Try.pinned (OpenSpec.ofChange limboNoneSpec)

/-- ITS FALSE NEIGHBOUR: 'it returns false'. Refute it at one input. -/
def limboNoneWrong : ChangeSpec := { name := "limboNone", fn := fun _ => fun
  | [d] => { results := [.lit (.bool false)], args := [d] }
  | _ => none }
def LimboNoneWrongFalsely : Prop := limboNoneRow.holds Try.pinned (OpenSpec.ofChange limboNoneWrong)

/-- 'fuseelaw10.LimboTurns': WHATEVER THE INPUT: true; the input reads as it did. -/
def limboTurnsSpec : ChangeSpec := { name := "limboTurns", fn := fun _ => fun
  | [d1, d2] => { results := [.lit (.bool true)], args := [d1, d2] }
  | _ => none }
def limboTurnsRow : OpenClaim := { program := "ytgeblajdjdcghaa", sum := "a03d9219fd49f11f98fea8f51b9cf9130b313079a8109cd1fd4e2210092cf5f2", func := "fusee/fuseelaw10.LimboTurns", spec := "limboTurns", inPlace := ["sync/atomic.StoreUint64", "sync/atomic.LoadUint64", "sync/atomic.AddUint64", "sync/atomic.CompareAndSwapUint64", "sync/atomic.SwapUint64"], unfollowed := true, recurses := true, apart := false }
def LimboTurnsSaid : Prop := limboTurnsRow.holds Try.pinned (OpenSpec.ofChange limboTurnsSpec)

/-- ITS FALSE NEIGHBOUR: 'it returns false'. Refute it at one input. -/
def limboTurnsWrong : ChangeSpec := { name := "limboTurns", fn := fun _ => fun
  | [d1, d2] => { results := [.lit (.bool false)], args := [d1, d2] }
  | _ => none }
def LimboTurnsWrongFalsely : Prop := limboTurnsRow.holds Try.pinned (OpenSpec.ofChange limboTurnsWrong)

/-- 'fuseelaw10.LimboScript': WHATEVER THE INPUT: true; the input reads as it did. -/
def limboScriptSpec : ChangeSpec := { name := "limboScript", fn := fun _ => fun
  | [d] => { results := [.lit (.bool true)], args := [d] }
  | _ => none }
def limboScriptRow : OpenClaim := { program := "ytgeblajdjdcghaa", sum := "a03d9219fd49f11f98fea8f51b9cf9130b313079a8109cd1fd4e2210092cf5f2", func := "fusee/fuseelaw10.LimboScript", spec := "limboScript", inPlace := ["sync/atomic.StoreUint64", "sync/atomic.LoadUint64", "sync/atomic.CompareAndSwapUint64", "sync/atomic.SwapUint64", "sync/atomic.AddUint64"], unfollowed := true, recurses := true, apart := false }
def LimboScriptSaid : Prop := limboScriptRow.holds Try.pinned (OpenSpec.ofChange limboScriptSpec)

/-- ITS FALSE NEIGHBOUR: 'it returns false'. Refute it at one input. -/
def limboScriptWrong : ChangeSpec := { name := "limboScript", fn := fun _ => fun
  | [d] => { results := [.lit (.bool false)], args := [d] }
  | _ => none }
def LimboScriptWrongFalsely : Prop := limboScriptRow.holds Try.pinned (OpenSpec.ofChange limboScriptWrong)

/-- 'fuseelaw10.LimboJoin': WHATEVER THE INPUT: true; the input reads as it did. -/
def limboJoinSpec : ChangeSpec := { name := "limboJoin", fn := fun _ => fun
  | [d] => { results := [.lit (.bool true)], args := [d] }
  | _ => none }
def limboJoinRow : OpenClaim := { program := "ytgeblajdjdcghaa", sum := "a03d9219fd49f11f98fea8f51b9cf9130b313079a8109cd1fd4e2210092cf5f2", func := "fusee/fuseelaw10.LimboJoin", spec := "limboJoin", inPlace := ["sync/atomic.StoreUint64", "sync/atomic.LoadUint64", "sync/atomic.CompareAndSwapUint64", "sync/atomic.SwapUint64", "sync/atomic.AddUint64"], unfollowed := true, recurses := true, apart := false }
def LimboJoinSaid : Prop := limboJoinRow.holds Try.pinned (OpenSpec.ofChange limboJoinSpec)

/-- ITS FALSE NEIGHBOUR: 'it returns false'. Refute it at one input. -/
def limboJoinWrong : ChangeSpec := { name := "limboJoin", fn := fun _ => fun
  | [d] => { results := [.lit (.bool false)], args := [d] }
  | _ => none }
def LimboJoinWrongFalsely : Prop := limboJoinRow.holds Try.pinned (OpenSpec.ofChange limboJoinWrong)

/- THE SECOND FORM. 'bulk': how many values and letters a reading holds, each counted each time it is reached (what is shared counts as often as it is met; a slice's spare places count too). A statement '..UptoSaid' is the law's where the arguments, and the package variables that the reading takes, are together of bulk at most 1048576: NARROWER than '..Said'. Prove '..Said' where nothing that the law and all that it calls make is longer than what came in: it says more and counts as full. Else prove '..UptoSaid'. A law counts once. -/
mutual
def uptoBulk {H : Type} : DataW H → Nat
  | .lit (.string bytes) => bytes.length + 1
  | .lit _ => 1
  | .nil => 1
  | .ptr d => uptoBulk d + 1
  | .slice elems spare => uptoBulkAll elems + uptoBulkAll spare + 1
  | .agg parts => uptoBulkAll parts + 1
  | .iface _ d => uptoBulk d + 1
  | .map entries => uptoBulkEntries entries + 1
  | .held _ => 1
def uptoBulkAll {H : Type} : List (DataW H) → Nat
  | [] => 0
  | d :: r => uptoBulk d + uptoBulkAll r
def uptoBulkEntries {H : Type} : List (Lit × DataW H) → Nat
  | [] => 0
  | x :: r => uptoBulkEntry x + uptoBulkEntries r
def uptoBulkEntry {H : Type} : Lit × DataW H → Nat
  | (.string bytes, d) => bytes.length + uptoBulk d + 1
  | (_, d) => uptoBulk d + 1
 end
def uptoSmall : (H : Type) → List (DataW H) → Bool := fun _ ds => decide (uptoBulkAll ds ≤ 1048576)
def OpenSpec.upto (s : _root_.Go.ChangeSpec) : _root_.Go.OpenSpec := { _root_.Go.OpenSpec.ofChange s with cond := some uptoSmall }

/-- 'fuseelaw24.StoryBefore', WHERE WHAT IT READS IS OF BULK AT MOST 1048576: true; the input reads as it did. -/
def storyBeforeUptoRow : OpenClaim := { program := "ytgeblajdjdcghaa", sum := "a03d9219fd49f11f98fea8f51b9cf9130b313079a8109cd1fd4e2210092cf5f2", func := "fusee/fuseelaw24.StoryBefore", spec := "storyBefore", loops := true, apart := false, narrowed := true }
def StoryBeforeUptoSaid : Prop := storyBeforeUptoRow.holds Try.pinned (OpenSpec.upto storyBeforeSpec)

/-- 'fuseelaw24.StoryOrder', WHERE WHAT IT READS IS OF BULK AT MOST 1048576: true; the input reads as it did. -/
def storyOrderUptoRow : OpenClaim := { program := "ytgeblajdjdcghaa", sum := "a03d9219fd49f11f98fea8f51b9cf9130b313079a8109cd1fd4e2210092cf5f2", func := "fusee/fuseelaw24.StoryOrder", spec := "storyOrder", loops := true, apart := false, narrowed := true }
def StoryOrderUptoSaid : Prop := storyOrderUptoRow.holds Try.pinned (OpenSpec.upto storyOrderSpec)

/-- 'fuseelaw12.TableLast', WHERE WHAT IT READS IS OF BULK AT MOST 1048576: true; the input reads as it did. -/
def tableLastUptoRow : OpenClaim := { program := "ytgeblajdjdcghaa", sum := "a03d9219fd49f11f98fea8f51b9cf9130b313079a8109cd1fd4e2210092cf5f2", func := "fusee/fuseelaw12.TableLast", spec := "tableLast", apart := false, narrowed := true }
def TableLastUptoSaid : Prop := tableLastUptoRow.holds Try.pinned (OpenSpec.upto tableLastSpec)

/-- 'fuseelaw8.ReaderScript', WHERE WHAT IT READS IS OF BULK AT MOST 1048576: true; the input reads as it did. -/
def readerScriptUptoRow : OpenClaim := { program := "ytgeblajdjdcghaa", sum := "a03d9219fd49f11f98fea8f51b9cf9130b313079a8109cd1fd4e2210092cf5f2", func := "fusee/fuseelaw8.ReaderScript", spec := "readerScript", inPlace := ["sync/atomic.StoreUint64", "sync/atomic.LoadUint64", "sync/atomic.CompareAndSwapUint64", "sync/atomic.AddUint64", "sync/atomic.SwapUint64"], apart := false, narrowed := true }
def ReaderScriptUptoSaid : Prop := readerScriptUptoRow.holds Try.pinned (OpenSpec.upto readerScriptSpec)

/-- 'fuseelaw8.ReaderQuiet', WHERE WHAT IT READS IS OF BULK AT MOST 1048576: true; the input reads as it did. -/
def readerQuietUptoRow : OpenClaim := { program := "ytgeblajdjdcghaa", sum := "a03d9219fd49f11f98fea8f51b9cf9130b313079a8109cd1fd4e2210092cf5f2", func := "fusee/fuseelaw8.ReaderQuiet", spec := "readerQuiet", inPlace := ["sync/atomic.StoreUint64", "sync/atomic.LoadUint64", "sync/atomic.CompareAndSwapUint64", "sync/atomic.AddUint64", "sync/atomic.SwapUint64"], apart := false, narrowed := true }
def ReaderQuietUptoSaid : Prop := readerQuietUptoRow.holds Try.pinned (OpenSpec.upto readerQuietSpec)

/-- 'fuseelaw8.ReaderLeast', WHERE WHAT IT READS IS OF BULK AT MOST 1048576: true; the input reads as it did. -/
def readerLeastUptoRow : OpenClaim := { program := "ytgeblajdjdcghaa", sum := "a03d9219fd49f11f98fea8f51b9cf9130b313079a8109cd1fd4e2210092cf5f2", func := "fusee/fuseelaw8.ReaderLeast", spec := "readerLeast", inPlace := ["sync/atomic.StoreUint64", "sync/atomic.LoadUint64", "sync/atomic.CompareAndSwapUint64", "sync/atomic.AddUint64", "sync/atomic.SwapUint64"], apart := false, narrowed := true }
def ReaderLeastUptoSaid : Prop := readerLeastUptoRow.holds Try.pinned (OpenSpec.upto readerLeastSpec)

/-- 'fuseelaw8.ReaderNone', WHERE WHAT IT READS IS OF BULK AT MOST 1048576: true; the input reads as it did. -/
def readerNoneUptoRow : OpenClaim := { program := "ytgeblajdjdcghaa", sum := "a03d9219fd49f11f98fea8f51b9cf9130b313079a8109cd1fd4e2210092cf5f2", func := "fusee/fuseelaw8.ReaderNone", spec := "readerNone", inPlace := ["sync/atomic.LoadUint64", "sync/atomic.CompareAndSwapUint64", "sync/atomic.SwapUint64", "sync/atomic.AddUint64", "sync/atomic.StoreUint64"], apart := false, narrowed := true }
def ReaderNoneUptoSaid : Prop := readerNoneUptoRow.holds Try.pinned (OpenSpec.upto readerNoneSpec)

/-- 'fuseelaw10.LimboFull', WHERE WHAT IT READS IS OF BULK AT MOST 1048576: true; the input reads as it did. -/
def limboFullUptoRow : OpenClaim := { program := "ytgeblajdjdcghaa", sum := "a03d9219fd49f11f98fea8f51b9cf9130b313079a8109cd1fd4e2210092cf5f2", func := "fusee/fuseelaw10.LimboFull", spec := "limboFull", inPlace := ["sync/atomic.StoreUint64", "sync/atomic.LoadUint64"], unfollowed := true, recurses := true, apart := false, narrowed := true }
def LimboFullUptoSaid : Prop := limboFullUptoRow.holds Try.pinned (OpenSpec.upto limboFullSpec)

/-- 'fuseelaw10.LimboNone', WHERE WHAT IT READS IS OF BULK AT MOST 1048576: true; the input reads as it did. -/
def limboNoneUptoRow : OpenClaim := { program := "ytgeblajdjdcghaa", sum := "a03d9219fd49f11f98fea8f51b9cf9130b313079a8109cd1fd4e2210092cf5f2", func := "fusee/fuseelaw10.LimboNone", spec := "limboNone", inPlace := ["sync/atomic.StoreUint64", "sync/atomic.LoadUint64"], unfollowed := true, recurses := true, apart := false, narrowed := true }
def LimboNoneUptoSaid : Prop := limboNoneUptoRow.holds Try.pinned (OpenSpec.upto limboNoneSpec)

/-- 'fuseelaw10.LimboTurns', WHERE WHAT IT READS IS OF BULK AT MOST 1048576: true; the input reads as it did. -/
def limboTurnsUptoRow : OpenClaim := { program := "ytgeblajdjdcghaa", sum := "a03d9219fd49f11f98fea8f51b9cf9130b313079a8109cd1fd4e2210092cf5f2", func := "fusee/fuseelaw10.LimboTurns", spec := "limboTurns", inPlace := ["sync/atomic.StoreUint64", "sync/atomic.LoadUint64", "sync/atomic.AddUint64", "sync/atomic.CompareAndSwapUint64", "sync/atomic.SwapUint64"], unfollowed := true, recurses := true, apart := false, narrowed := true }
def LimboTurnsUptoSaid : Prop := limboTurnsUptoRow.holds Try.pinned (OpenSpec.upto limboTurnsSpec)

/-- 'fuseelaw10.LimboScript', WHERE WHAT IT READS IS OF BULK AT MOST 1048576: true; the input reads as it did. -/
def limboScriptUptoRow : OpenClaim := { program := "ytgeblajdjdcghaa", sum := "a03d9219fd49f11f98fea8f51b9cf9130b313079a8109cd1fd4e2210092cf5f2", func := "fusee/fuseelaw10.LimboScript", spec := "limboScript", inPlace := ["sync/atomic.StoreUint64", "sync/atomic.LoadUint64", "sync/atomic.CompareAndSwapUint64", "sync/atomic.SwapUint64", "sync/atomic.AddUint64"], unfollowed := true, recurses := true, apart := false, narrowed := true }
def LimboScriptUptoSaid : Prop := limboScriptUptoRow.holds Try.pinned (OpenSpec.upto limboScriptSpec)

/-- 'fuseelaw10.LimboJoin', WHERE WHAT IT READS IS OF BULK AT MOST 1048576: true; the input reads as it did. -/
def limboJoinUptoRow : OpenClaim := { program := "ytgeblajdjdcghaa", sum := "a03d9219fd49f11f98fea8f51b9cf9130b313079a8109cd1fd4e2210092cf5f2", func := "fusee/fuseelaw10.LimboJoin", spec := "limboJoin", inPlace := ["sync/atomic.StoreUint64", "sync/atomic.LoadUint64", "sync/atomic.CompareAndSwapUint64", "sync/atomic.SwapUint64", "sync/atomic.AddUint64"], unfollowed := true, recurses := true, apart := false, narrowed := true }
def LimboJoinUptoSaid : Prop := limboJoinUptoRow.holds Try.pinned (OpenSpec.upto limboJoinSpec)

end Rows
end Go.Proofs.Ytgeblajdjdcghaa
