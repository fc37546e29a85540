/-
  DERIVED. GIVEN WITH THE SEED: THE CARDS: each row of YtagliemeolngiaaDoorRows.lean that lists a variable, with what it lists TIED to the program's text (the seventh form; the later family's looks); each row that meets fmt, with fmt's text TOLD by the authors' own Lean function (tested against real Go, not proved from fmt's source: count such statements apart). THE CARD IS WHAT COUNTS. Prove the row's statement (the work); the ties are given (YtagliemeolngiaaDoorTie.lean); close each card by the builder's one call (the guide's Derived/Test/ToyasCard.lean, 'card_holds'). Laid BY PROGRAM, IN A SANDBOX (cutbox-door.mjs). By AI agents, Wed Nov 11 2026. No macro, syntax, notation, axiom, sorry.
-/
import Derived.Test.YtagliemeolngiaaDoorRows
import GoSem.ClaimSeven
namespace Go.Proofs.YtagliemeolngiaaDoor
namespace Rows

/-- THE TIED CARD OF 'fuseelaw28.ScriptWords'. -/
def scriptWordsCard : Claim7 := { stood := { row := scriptWordsRow, standIns := [], harness := (true, "3746cd1bac139f6370aae652cb4bd51059f3ea8377ed0f8a8a844de75d983e8f"), looks := true }, kinds := [], alts := [], laidByText := true, laidKinds := [.data, .data, .data], laidTests := true, laidLooks := .later }
def ScriptWordsCardSaid : Prop := Claim7.holds Tryd.pinned (.plain (OpenSpec.ofChange scriptWordsSpec)) scriptWordsCard

/-- THE TIED CARD OF 'fuseelaw28.ScriptWordBack'. -/
def scriptWordBackCard : Claim7 := { stood := { row := scriptWordBackRow, standIns := [], harness := (true, "3746cd1bac139f6370aae652cb4bd51059f3ea8377ed0f8a8a844de75d983e8f"), looks := true }, kinds := [], alts := [], laidByText := true, laidKinds := [.data, .data, .data], laidTests := true, laidLooks := .later }
def ScriptWordBackCardSaid : Prop := Claim7.holds Tryd.pinned (.plain (OpenSpec.ofChange scriptWordBackSpec)) scriptWordBackCard

/-- THE TIED CARD OF 'fuseelaw28.ScriptPrints'. -/
def scriptPrintsCard : Claim7 := { stood := { row := scriptPrintsRow, standIns := [], harness := (true, "3746cd1bac139f6370aae652cb4bd51059f3ea8377ed0f8a8a844de75d983e8f"), looks := true }, kinds := [], alts := [], laidByText := true, laidKinds := [.data, .data, .data], laidTests := true, laidLooks := .later }
def ScriptPrintsCardSaid : Prop := Claim7.holds Tryd.pinned (.plain (OpenSpec.ofChange scriptPrintsSpec)) scriptPrintsCard

/-- THE TIED CARD OF 'fuseelaw28.ScriptReads'. -/
def scriptReadsCard : Claim7 := { stood := { row := scriptReadsRow, standIns := [], harness := (true, "3746cd1bac139f6370aae652cb4bd51059f3ea8377ed0f8a8a844de75d983e8f"), looks := true }, kinds := [], alts := [], laidByText := true, laidKinds := [.data, .data, .data, .sentinel, .sentinel], laidTests := true, laidLooks := .later }
def ScriptReadsCardSaid : Prop := Claim7.holds Tryd.pinned (.plain (OpenSpec.ofChange scriptReadsSpec)) scriptReadsCard

/-- THE TIED CARD OF 'fuseelaw28.ScriptNumbers'. -/
def scriptNumbersCard : Claim7 := { stood := { row := scriptNumbersRow, standIns := [], harness := (true, "3746cd1bac139f6370aae652cb4bd51059f3ea8377ed0f8a8a844de75d983e8f"), looks := true }, kinds := [], alts := [], laidByText := true, laidKinds := [.data, .data, .data, .sentinel, .sentinel], laidTests := true, laidLooks := .later }
def ScriptNumbersCardSaid : Prop := Claim7.holds Tryd.pinned (.plain (OpenSpec.ofChange scriptNumbersSpec)) scriptNumbersCard

/-- THE TIED CARD OF 'fuseelaw28.ScriptBack'. -/
def scriptBackCard : Claim7 := { stood := { row := scriptBackRow, standIns := [], harness := (true, "3746cd1bac139f6370aae652cb4bd51059f3ea8377ed0f8a8a844de75d983e8f"), looks := true }, kinds := [], alts := [], laidByText := true, laidKinds := [.data, .data, .data, .sentinel, .sentinel], laidTests := true, laidLooks := .later }
def ScriptBackCardSaid : Prop := Claim7.holds Tryd.pinned (.plain (OpenSpec.ofChange scriptBackSpec)) scriptBackCard

/-- THE TIED CARD OF 'fuseelaw28.ScriptStrict'. -/
def scriptStrictCard : Claim7 := { stood := { row := scriptStrictRow, standIns := [], harness := (true, "3746cd1bac139f6370aae652cb4bd51059f3ea8377ed0f8a8a844de75d983e8f"), looks := true }, kinds := [], alts := [], laidByText := true, laidKinds := [.data, .data, .data, .sentinel, .sentinel], laidTests := true, laidLooks := .later }
def ScriptStrictCardSaid : Prop := Claim7.holds Tryd.pinned (.plain (OpenSpec.ofChange scriptStrictSpec)) scriptStrictCard

/-- THE TIED CARD OF 'fuseelaw28.ScriptParts'. -/
def scriptPartsCard : Claim7 := { stood := { row := scriptPartsRow, standIns := [], harness := (true, "3746cd1bac139f6370aae652cb4bd51059f3ea8377ed0f8a8a844de75d983e8f"), looks := true }, kinds := [], alts := [], laidByText := true, laidKinds := [.data, .data, .data, .sentinel, .sentinel], laidTests := true, laidLooks := .later }
def ScriptPartsCardSaid : Prop := Claim7.holds Tryd.pinned (.plain (OpenSpec.ofChange scriptPartsSpec)) scriptPartsCard

/-- THE SECOND FORM's CARD OF 'fuseelaw28.ScriptWords'. -/
def scriptWordsUptoCard : Claim7 := { stood := { row := scriptWordsUptoRow, standIns := [], harness := (true, "3746cd1bac139f6370aae652cb4bd51059f3ea8377ed0f8a8a844de75d983e8f"), looks := true }, kinds := [], alts := [], laidByText := true, laidKinds := [.data, .data, .data], laidTests := true, laidLooks := .later }
def ScriptWordsUptoCardSaid : Prop := Claim7.holds Tryd.pinned (.plain (OpenSpec.upto scriptWordsSpec)) scriptWordsUptoCard

/-- THE SECOND FORM's CARD OF 'fuseelaw28.ScriptWordBack'. -/
def scriptWordBackUptoCard : Claim7 := { stood := { row := scriptWordBackUptoRow, standIns := [], harness := (true, "3746cd1bac139f6370aae652cb4bd51059f3ea8377ed0f8a8a844de75d983e8f"), looks := true }, kinds := [], alts := [], laidByText := true, laidKinds := [.data, .data, .data], laidTests := true, laidLooks := .later }
def ScriptWordBackUptoCardSaid : Prop := Claim7.holds Tryd.pinned (.plain (OpenSpec.upto scriptWordBackSpec)) scriptWordBackUptoCard

/-- THE SECOND FORM's CARD OF 'fuseelaw28.ScriptPrints'. -/
def scriptPrintsUptoCard : Claim7 := { stood := { row := scriptPrintsUptoRow, standIns := [], harness := (true, "3746cd1bac139f6370aae652cb4bd51059f3ea8377ed0f8a8a844de75d983e8f"), looks := true }, kinds := [], alts := [], laidByText := true, laidKinds := [.data, .data, .data], laidTests := true, laidLooks := .later }
def ScriptPrintsUptoCardSaid : Prop := Claim7.holds Tryd.pinned (.plain (OpenSpec.upto scriptPrintsSpec)) scriptPrintsUptoCard

/-- THE SECOND FORM's CARD OF 'fuseelaw28.ScriptReads'. -/
def scriptReadsUptoCard : Claim7 := { stood := { row := scriptReadsUptoRow, standIns := [], harness := (true, "3746cd1bac139f6370aae652cb4bd51059f3ea8377ed0f8a8a844de75d983e8f"), looks := true }, kinds := [], alts := [], laidByText := true, laidKinds := [.data, .data, .data, .sentinel, .sentinel], laidTests := true, laidLooks := .later }
def ScriptReadsUptoCardSaid : Prop := Claim7.holds Tryd.pinned (.plain (OpenSpec.upto scriptReadsSpec)) scriptReadsUptoCard

/-- THE SECOND FORM's CARD OF 'fuseelaw28.ScriptNumbers'. -/
def scriptNumbersUptoCard : Claim7 := { stood := { row := scriptNumbersUptoRow, standIns := [], harness := (true, "3746cd1bac139f6370aae652cb4bd51059f3ea8377ed0f8a8a844de75d983e8f"), looks := true }, kinds := [], alts := [], laidByText := true, laidKinds := [.data, .data, .data, .sentinel, .sentinel], laidTests := true, laidLooks := .later }
def ScriptNumbersUptoCardSaid : Prop := Claim7.holds Tryd.pinned (.plain (OpenSpec.upto scriptNumbersSpec)) scriptNumbersUptoCard

/-- THE SECOND FORM's CARD OF 'fuseelaw28.ScriptBack'. -/
def scriptBackUptoCard : Claim7 := { stood := { row := scriptBackUptoRow, standIns := [], harness := (true, "3746cd1bac139f6370aae652cb4bd51059f3ea8377ed0f8a8a844de75d983e8f"), looks := true }, kinds := [], alts := [], laidByText := true, laidKinds := [.data, .data, .data, .sentinel, .sentinel], laidTests := true, laidLooks := .later }
def ScriptBackUptoCardSaid : Prop := Claim7.holds Tryd.pinned (.plain (OpenSpec.upto scriptBackSpec)) scriptBackUptoCard

/-- THE SECOND FORM's CARD OF 'fuseelaw28.ScriptStrict'. -/
def scriptStrictUptoCard : Claim7 := { stood := { row := scriptStrictUptoRow, standIns := [], harness := (true, "3746cd1bac139f6370aae652cb4bd51059f3ea8377ed0f8a8a844de75d983e8f"), looks := true }, kinds := [], alts := [], laidByText := true, laidKinds := [.data, .data, .data, .sentinel, .sentinel], laidTests := true, laidLooks := .later }
def ScriptStrictUptoCardSaid : Prop := Claim7.holds Tryd.pinned (.plain (OpenSpec.upto scriptStrictSpec)) scriptStrictUptoCard

/-- THE SECOND FORM's CARD OF 'fuseelaw28.ScriptParts'. -/
def scriptPartsUptoCard : Claim7 := { stood := { row := scriptPartsUptoRow, standIns := [], harness := (true, "3746cd1bac139f6370aae652cb4bd51059f3ea8377ed0f8a8a844de75d983e8f"), looks := true }, kinds := [], alts := [], laidByText := true, laidKinds := [.data, .data, .data, .sentinel, .sentinel], laidTests := true, laidLooks := .later }
def ScriptPartsUptoCardSaid : Prop := Claim7.holds Tryd.pinned (.plain (OpenSpec.upto scriptPartsSpec)) scriptPartsUptoCard
end Rows
end Go.Proofs.YtagliemeolngiaaDoor
