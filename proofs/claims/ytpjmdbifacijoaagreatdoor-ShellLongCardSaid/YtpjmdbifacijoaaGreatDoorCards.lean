/-
  DERIVED. GIVEN WITH THE SEED: THE CARDS: each row of YtpjmdbifacijoaaGreatDoorRows.lean that lists a variable, with what it lists TIED to the program's text (the seventh form; the later family's looks); each row that meets fmt, with fmt's text TOLD by the authors' own Lean function (tested against real Go, not proved from fmt's source: count such statements apart). THE CARD IS WHAT COUNTS. Prove the row's statement (the work); the ties are given (YtpjmdbifacijoaaGreatDoorTie.lean); close each card by the builder's one call (the guide's Derived/Test/ToyasCard.lean, 'card_holds'). Laid BY PROGRAM, IN A SANDBOX (cutbox-door.mjs). By AI agents, Wed Nov 11 2026. No macro, syntax, notation, axiom, sorry.
-/
import Derived.Test.YtpjmdbifacijoaaGreatDoorRows
import GoSem.ClaimSeven
namespace Go.Proofs.YtpjmdbifacijoaaGreatDoor
namespace Rows

/-- THE TIED CARD OF 'fuseelaw29.ShellFirst'. -/
def shellFirstCard : Claim7 := { stood := { row := shellFirstRow, standIns := [], harness := (true, "bae915fbc762d1c113cda9b830df55aeb4f50433b72cb525bbb367ebc18bd850"), looks := true }, kinds := [], alts := [], laidByText := true, laidKinds := [.data, .data, .data, .data, .sentinel, .sentinel, .pinned], laidTests := true, laidLooks := .later }
def ShellFirstCardSaid : Prop := Claim7.holds Tryz.pinned (.plain (OpenSpec.ofChange shellFirstSpec)) shellFirstCard

/-- THE TIED CARD OF 'fuseelaw29.ShellLong'. -/
def shellLongCard : Claim7 := { stood := { row := shellLongRow, standIns := [], harness := (true, "bae915fbc762d1c113cda9b830df55aeb4f50433b72cb525bbb367ebc18bd850"), looks := true }, kinds := [], alts := [], laidByText := true, laidKinds := [.data, .data, .data, .data, .sentinel, .sentinel, .pinned], laidTests := true, laidLooks := .later }
def ShellLongCardSaid : Prop := Claim7.holds Tryz.pinned (.plain (OpenSpec.ofChange shellLongSpec)) shellLongCard

/-- THE SECOND FORM's CARD OF 'fuseelaw29.ShellFirst'. -/
def shellFirstUptoCard : Claim7 := { stood := { row := shellFirstUptoRow, standIns := [], harness := (true, "bae915fbc762d1c113cda9b830df55aeb4f50433b72cb525bbb367ebc18bd850"), looks := true }, kinds := [], alts := [], laidByText := true, laidKinds := [.data, .data, .data, .data, .sentinel, .sentinel, .pinned], laidTests := true, laidLooks := .later }
def ShellFirstUptoCardSaid : Prop := Claim7.holds Tryz.pinned (.plain (OpenSpec.upto shellFirstSpec)) shellFirstUptoCard

/-- THE SECOND FORM's CARD OF 'fuseelaw29.ShellLong'. -/
def shellLongUptoCard : Claim7 := { stood := { row := shellLongUptoRow, standIns := [], harness := (true, "bae915fbc762d1c113cda9b830df55aeb4f50433b72cb525bbb367ebc18bd850"), looks := true }, kinds := [], alts := [], laidByText := true, laidKinds := [.data, .data, .data, .data, .sentinel, .sentinel, .pinned], laidTests := true, laidLooks := .later }
def ShellLongUptoCardSaid : Prop := Claim7.holds Tryz.pinned (.plain (OpenSpec.upto shellLongSpec)) shellLongUptoCard
end Rows
end Go.Proofs.YtpjmdbifacijoaaGreatDoor
