/-
  NARROWER THAN 'FOR EVERY INPUT', by the rows' own cells (each row's printed sentence says how): StoryEnds: loops · StoryTells: loops.
  DERIVED. THE GIVEN ROWS OF THIS SEAT. 6 by the template 'for every input the law returns true; each argument reads behind the call as it read before'; 0 by the template 'total and deterministic' (their statements: YtaihimbjdgmjgaaTotals.lean).
  GIVEN WITH THE SEED: the statements are not yours to turn. If you find one false, say at which input.
  Laid BY PROGRAM, IN A SANDBOX (cutbox-rows.mjs): the forced cells as the released guide's own fill.sh prints them over the translation 8ed6110a28b34369… (all of the seat's roots in one cut). By AI agents, Wed Nov 11 2026. No macro, syntax, notation, axiom, sorry.
-/
import Derived.Test.YtaihimbjdgmjgaaChecked
import GoSem.Claim
import GoSem.ClaimJoined
import GoSem.ClaimMapViews
import Derived.JoinedTies
import Derived.KernelRfl
namespace Go.Proofs.Ytaihimbjdgmjgaa
/- THE CELL 'sum', in the pinned program and in every row, IS THE sha256 OF THE DUMP (.gsa) THAT YtaihimbjdgmjgaaProg.lean LOADS. Nothing in Lean hashes anything: it is a label: what it is worth is what the hold of that sum in a sandbox is worth. -/
noncomputable def Try.pinned : Pinned := { name := "ytaihimbjdgmjgaa", sum := "8ed6110a28b3436987c3f53779030139d87b42f87d8c4b4efe9c485bb2027776", checked := Try.checked }
namespace Rows
def none {H : Type} : Left H := { results := [], args := [] }

/-- 'fuseelaw24.StoryEnds': WHATEVER THE INPUT: true; the input reads as it did. -/
def storyEndsSpec : ChangeSpec := { name := "storyEnds", fn := fun _ => fun
  | [d] => { results := [.lit (.bool true)], args := [d] }
  | _ => none }
def storyEndsRow : OpenClaim := { program := "ytaihimbjdgmjgaa", sum := "8ed6110a28b3436987c3f53779030139d87b42f87d8c4b4efe9c485bb2027776", func := "fusee/fuseelaw24.StoryEnds", spec := "storyEnds", unfollowed := true, recurses := true, loops := true, apart := false }
def StoryEndsSaid : Prop := storyEndsRow.holds Try.pinned (OpenSpec.ofChange storyEndsSpec)

/-- ITS FALSE NEIGHBOUR: 'it returns false'. Refute it at one input. -/
def storyEndsWrong : ChangeSpec := { name := "storyEnds", fn := fun _ => fun
  | [d] => { results := [.lit (.bool false)], args := [d] }
  | _ => none }
def StoryEndsWrongFalsely : Prop := storyEndsRow.holds Try.pinned (OpenSpec.ofChange storyEndsWrong)

/-- 'fuseelaw12.TableSorted': WHATEVER THE INPUT: true; the input reads as it did. -/
def tableSortedSpec : ChangeSpec := { name := "tableSorted", fn := fun _ => fun
  | [d] => { results := [.lit (.bool true)], args := [d] }
  | _ => none }
def tableSortedRow : OpenClaim := { program := "ytaihimbjdgmjgaa", sum := "8ed6110a28b3436987c3f53779030139d87b42f87d8c4b4efe9c485bb2027776", func := "fusee/fuseelaw12.TableSorted", spec := "tableSorted", inPlace := ["internal/bytealg.abigen_runtime_cmpstring"], unfollowed := true, recurses := true, apart := false }
def TableSortedSaid : Prop := tableSortedRow.holds Try.pinned (OpenSpec.ofChange tableSortedSpec)

/-- ITS FALSE NEIGHBOUR: 'it returns false'. Refute it at one input. -/
def tableSortedWrong : ChangeSpec := { name := "tableSorted", fn := fun _ => fun
  | [d] => { results := [.lit (.bool false)], args := [d] }
  | _ => none }
def TableSortedWrongFalsely : Prop := tableSortedRow.holds Try.pinned (OpenSpec.ofChange tableSortedWrong)

/-- 'fuseelaw12.TableWalks': WHATEVER THE INPUT: true; the input reads as it did. -/
def tableWalksSpec : ChangeSpec := { name := "tableWalks", fn := fun _ => fun
  | [d] => { results := [.lit (.bool true)], args := [d] }
  | _ => none }
def tableWalksRow : OpenClaim := { program := "ytaihimbjdgmjgaa", sum := "8ed6110a28b3436987c3f53779030139d87b42f87d8c4b4efe9c485bb2027776", func := "fusee/fuseelaw12.TableWalks", spec := "tableWalks", unfollowed := true, recurses := true, apart := false }
def TableWalksSaid : Prop := tableWalksRow.holds Try.pinned (OpenSpec.ofChange tableWalksSpec)

/-- ITS FALSE NEIGHBOUR: 'it returns false'. Refute it at one input. -/
def tableWalksWrong : ChangeSpec := { name := "tableWalks", fn := fun _ => fun
  | [d] => { results := [.lit (.bool false)], args := [d] }
  | _ => none }
def TableWalksWrongFalsely : Prop := tableWalksRow.holds Try.pinned (OpenSpec.ofChange tableWalksWrong)

/-- 'fuseelaw24.StoryTells': WHATEVER THE INPUT: true; the input reads as it did. -/
def storyTellsSpec : ChangeSpec := { name := "storyTells", fn := fun _ => fun
  | [d] => { results := [.lit (.bool true)], args := [d] }
  | _ => none }
def storyTellsRow : OpenClaim := { program := "ytaihimbjdgmjgaa", sum := "8ed6110a28b3436987c3f53779030139d87b42f87d8c4b4efe9c485bb2027776", func := "fusee/fuseelaw24.StoryTells", spec := "storyTells", unfollowed := true, recurses := true, loops := true, apart := false }
def StoryTellsSaid : Prop := storyTellsRow.holds Try.pinned (OpenSpec.ofChange storyTellsSpec)

/-- ITS FALSE NEIGHBOUR: 'it returns false'. Refute it at one input. -/
def storyTellsWrong : ChangeSpec := { name := "storyTells", fn := fun _ => fun
  | [d] => { results := [.lit (.bool false)], args := [d] }
  | _ => none }
def StoryTellsWrongFalsely : Prop := storyTellsRow.holds Try.pinned (OpenSpec.ofChange storyTellsWrong)

/-- 'fuseelaw12.TableScript': WHATEVER THE INPUT: true; the input reads as it did. -/
def tableScriptSpec : ChangeSpec := { name := "tableScript", fn := fun _ => fun
  | [d] => { results := [.lit (.bool true)], args := [d] }
  | _ => none }
def tableScriptRow : OpenClaim := { program := "ytaihimbjdgmjgaa", sum := "8ed6110a28b3436987c3f53779030139d87b42f87d8c4b4efe9c485bb2027776", func := "fusee/fuseelaw12.TableScript", spec := "tableScript", inPlace := ["internal/bytealg.abigen_runtime_cmpstring"], unfollowed := true, recurses := true, apart := false }
def TableScriptSaid : Prop := tableScriptRow.holds Try.pinned (OpenSpec.ofChange tableScriptSpec)

/-- ITS FALSE NEIGHBOUR: 'it returns false'. Refute it at one input. -/
def tableScriptWrong : ChangeSpec := { name := "tableScript", fn := fun _ => fun
  | [d] => { results := [.lit (.bool false)], args := [d] }
  | _ => none }
def TableScriptWrongFalsely : Prop := tableScriptRow.holds Try.pinned (OpenSpec.ofChange tableScriptWrong)

/-- 'fuseelaw12.TableNone': WHATEVER THE INPUT: true; the input reads as it did. -/
def tableNoneSpec : ChangeSpec := { name := "tableNone", fn := fun _ => fun
  | [d1, d2] => { results := [.lit (.bool true)], args := [d1, d2] }
  | _ => none }
def tableNoneRow : OpenClaim := { program := "ytaihimbjdgmjgaa", sum := "8ed6110a28b3436987c3f53779030139d87b42f87d8c4b4efe9c485bb2027776", func := "fusee/fuseelaw12.TableNone", spec := "tableNone", inPlace := ["internal/bytealg.abigen_runtime_cmpstring"], unfollowed := true, recurses := true, apart := false }
def TableNoneSaid : Prop := tableNoneRow.holds Try.pinned (OpenSpec.ofChange tableNoneSpec)

/-- ITS FALSE NEIGHBOUR: 'it returns false'. Refute it at one input. -/
def tableNoneWrong : ChangeSpec := { name := "tableNone", fn := fun _ => fun
  | [d1, d2] => { results := [.lit (.bool false)], args := [d1, d2] }
  | _ => none }
def TableNoneWrongFalsely : Prop := tableNoneRow.holds Try.pinned (OpenSpec.ofChange tableNoneWrong)

/- THE SECOND FORM. 'bulk': how many values and letters a reading holds, each counted each time it is reached (what is shared counts as often as it is met; a slice's spare places count too). A statement '..UptoSaid' is the law's where the arguments, and the package variables that the reading takes, are together of bulk at most 1048576: NARROWER than '..Said'. Prove '..Said' where nothing that the law and all that it calls make is longer than what came in: it says more and counts as full. Else prove '..UptoSaid'. A law counts once. -/
mutual
def uptoBulk {H : Type} : DataW H → Nat
  | .lit (.string bytes) => bytes.length + 1
  | .lit _ => 1
  | .nil => 1
  | .ptr d => uptoBulk d + 1
  | .slice elems spare => uptoBulkAll elems + uptoBulkAll spare + 1
  | .agg parts => uptoBulkAll parts + 1
  | .iface _ d => uptoBulk d + 1
  | .map entries => uptoBulkEntries entries + 1
  | .held _ => 1
def uptoBulkAll {H : Type} : List (DataW H) → Nat
  | [] => 0
  | d :: r => uptoBulk d + uptoBulkAll r
def uptoBulkEntries {H : Type} : List (Lit × DataW H) → Nat
  | [] => 0
  | x :: r => uptoBulkEntry x + uptoBulkEntries r
def uptoBulkEntry {H : Type} : Lit × DataW H → Nat
  | (.string bytes, d) => bytes.length + uptoBulk d + 1
  | (_, d) => uptoBulk d + 1
 end
def uptoSmall : (H : Type) → List (DataW H) → Bool := fun _ ds => decide (uptoBulkAll ds ≤ 1048576)
def OpenSpec.upto (s : _root_.Go.ChangeSpec) : _root_.Go.OpenSpec := { _root_.Go.OpenSpec.ofChange s with cond := some uptoSmall }

/-- 'fuseelaw24.StoryEnds', WHERE WHAT IT READS IS OF BULK AT MOST 1048576: true; the input reads as it did. -/
def storyEndsUptoRow : OpenClaim := { program := "ytaihimbjdgmjgaa", sum := "8ed6110a28b3436987c3f53779030139d87b42f87d8c4b4efe9c485bb2027776", func := "fusee/fuseelaw24.StoryEnds", spec := "storyEnds", unfollowed := true, recurses := true, loops := true, apart := false, narrowed := true }
def StoryEndsUptoSaid : Prop := storyEndsUptoRow.holds Try.pinned (OpenSpec.upto storyEndsSpec)

/-- 'fuseelaw12.TableSorted', WHERE WHAT IT READS IS OF BULK AT MOST 1048576: true; the input reads as it did. -/
def tableSortedUptoRow : OpenClaim := { program := "ytaihimbjdgmjgaa", sum := "8ed6110a28b3436987c3f53779030139d87b42f87d8c4b4efe9c485bb2027776", func := "fusee/fuseelaw12.TableSorted", spec := "tableSorted", inPlace := ["internal/bytealg.abigen_runtime_cmpstring"], unfollowed := true, recurses := true, apart := false, narrowed := true }
def TableSortedUptoSaid : Prop := tableSortedUptoRow.holds Try.pinned (OpenSpec.upto tableSortedSpec)

/-- 'fuseelaw12.TableWalks', WHERE WHAT IT READS IS OF BULK AT MOST 1048576: true; the input reads as it did. -/
def tableWalksUptoRow : OpenClaim := { program := "ytaihimbjdgmjgaa", sum := "8ed6110a28b3436987c3f53779030139d87b42f87d8c4b4efe9c485bb2027776", func := "fusee/fuseelaw12.TableWalks", spec := "tableWalks", unfollowed := true, recurses := true, apart := false, narrowed := true }
def TableWalksUptoSaid : Prop := tableWalksUptoRow.holds Try.pinned (OpenSpec.upto tableWalksSpec)

/-- 'fuseelaw24.StoryTells', WHERE WHAT IT READS IS OF BULK AT MOST 1048576: true; the input reads as it did. -/
def storyTellsUptoRow : OpenClaim := { program := "ytaihimbjdgmjgaa", sum := "8ed6110a28b3436987c3f53779030139d87b42f87d8c4b4efe9c485bb2027776", func := "fusee/fuseelaw24.StoryTells", spec := "storyTells", unfollowed := true, recurses := true, loops := true, apart := false, narrowed := true }
def StoryTellsUptoSaid : Prop := storyTellsUptoRow.holds Try.pinned (OpenSpec.upto storyTellsSpec)

/-- 'fuseelaw12.TableScript', WHERE WHAT IT READS IS OF BULK AT MOST 1048576: true; the input reads as it did. -/
def tableScriptUptoRow : OpenClaim := { program := "ytaihimbjdgmjgaa", sum := "8ed6110a28b3436987c3f53779030139d87b42f87d8c4b4efe9c485bb2027776", func := "fusee/fuseelaw12.TableScript", spec := "tableScript", inPlace := ["internal/bytealg.abigen_runtime_cmpstring"], unfollowed := true, recurses := true, apart := false, narrowed := true }
def TableScriptUptoSaid : Prop := tableScriptUptoRow.holds Try.pinned (OpenSpec.upto tableScriptSpec)

/-- 'fuseelaw12.TableNone', WHERE WHAT IT READS IS OF BULK AT MOST 1048576: true; the input reads as it did. -/
def tableNoneUptoRow : OpenClaim := { program := "ytaihimbjdgmjgaa", sum := "8ed6110a28b3436987c3f53779030139d87b42f87d8c4b4efe9c485bb2027776", func := "fusee/fuseelaw12.TableNone", spec := "tableNone", inPlace := ["internal/bytealg.abigen_runtime_cmpstring"], unfollowed := true, recurses := true, apart := false, narrowed := true }
def TableNoneUptoSaid : Prop := tableNoneUptoRow.holds Try.pinned (OpenSpec.upto tableNoneSpec)

end Rows
end Go.Proofs.Ytaihimbjdgmjgaa
