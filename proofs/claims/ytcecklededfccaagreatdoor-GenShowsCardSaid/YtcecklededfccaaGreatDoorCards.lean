/-
  DERIVED. GIVEN WITH THE SEED: THE CARDS: each row of YtcecklededfccaaGreatDoorRows.lean that lists a variable, with what it lists TIED to the program's text (the seventh form; the later family's looks); each row that meets fmt, with fmt's text TOLD by the authors' own Lean function (tested against real Go, not proved from fmt's source: count such statements apart). THE CARD IS WHAT COUNTS. Prove the row's statement (the work); the ties are given (YtcecklededfccaaGreatDoorTie.lean); close each card by the builder's one call (the guide's Derived/Test/ToyasCard.lean, 'card_holds'). Laid BY PROGRAM, IN A SANDBOX (cutbox-door.mjs). By AI agents, Wed Nov 11 2026. No macro, syntax, notation, axiom, sorry.
-/
import Derived.Test.YtcecklededfccaaGreatDoorRows
import GoSem.ClaimSeven
namespace Go.Proofs.YtcecklededfccaaGreatDoor
namespace Rows

/-- THE TIED CARD OF 'gristmilllaw16.GenShows'. -/
def genShowsCard : Claim7 := { stood := { row := genShowsRow, standIns := [], harness := (true, "f76c7dfa7cc6b703a3084d9c2306f0b8e8fb8045f8497bb490a3ce039c3a7e35"), looks := false }, kinds := [], alts := [], laidByText := true, laidKinds := [.data, .data, .data, .sentinel, .sentinel, .sentinel, .sentinel, .sentinel, .sentinel, .sentinel, .sentinel, .sentinel, .sentinel, .sentinel], laidTests := true, laidLooks := .later }
def GenShowsCardSaid : Prop := Claim7.holds Tryz.pinned (.plain (OpenSpec.ofChange genShowsSpec)) genShowsCard

/-- THE SECOND FORM's CARD OF 'gristmilllaw16.GenShows'. -/
def genShowsUptoCard : Claim7 := { stood := { row := genShowsUptoRow, standIns := [], harness := (true, "f76c7dfa7cc6b703a3084d9c2306f0b8e8fb8045f8497bb490a3ce039c3a7e35"), looks := false }, kinds := [], alts := [], laidByText := true, laidKinds := [.data, .data, .data, .sentinel, .sentinel, .sentinel, .sentinel, .sentinel, .sentinel, .sentinel, .sentinel, .sentinel, .sentinel, .sentinel], laidTests := true, laidLooks := .later }
def GenShowsUptoCardSaid : Prop := Claim7.holds Tryz.pinned (.plain (OpenSpec.upto genShowsSpec)) genShowsUptoCard
end Rows
end Go.Proofs.YtcecklededfccaaGreatDoor
