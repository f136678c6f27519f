/-
  DERIVED. GIVEN WITH THE SEED: THE CARDS: each row of YtnphjnlehehpfaaGreatDoorRows.lean that lists a variable, with what it lists TIED to the program's text (the seventh form; the later family's looks); each row that meets fmt, with fmt's text TOLD by the authors' own Lean function (tested against real Go, not proved from fmt's source: count such statements apart). THE CARD IS WHAT COUNTS. Prove the row's statement (the work); the ties are given (YtnphjnlehehpfaaGreatDoorTie.lean); close each card by the builder's one call (the guide's Derived/Test/ToyasCard.lean, 'card_holds'). Laid BY PROGRAM, IN A SANDBOX (cutbox-door.mjs). By AI agents, Wed Nov 11 2026. No macro, syntax, notation, axiom, sorry.
-/
import Derived.Test.YtnphjnlehehpfaaGreatDoorRows
import GoSem.ClaimSeven
namespace Go.Proofs.YtnphjnlehehpfaaGreatDoor
namespace Rows

/-- THE TIED CARD OF 'gristmilllaw11.ObsDeep'. -/
def obsDeepCard : Claim7 := { stood := { row := obsDeepRow, standIns := [], harness := (true, "38cf4d7a248ee22f3bbc6b0e235fb18d9f01195d63d7ac5bf47c84e3b828611d"), looks := true }, kinds := [], alts := [], laidByText := true, laidKinds := [.data, .data, .data, .sentinel, .sentinel, .sentinel, .sentinel, .sentinel, .sentinel, .sentinel, .sentinel, .sentinel, .sentinel, .sentinel, .sentinel, .sentinel, .sentinel, .sentinel, .sentinel, .sentinel, .sentinel, .sentinel, .sentinel], laidTests := true, laidLooks := .later }
def ObsDeepCardSaid : Prop := Claim7.holds Tryz.pinned (.plain (OpenSpec.ofChange obsDeepSpec)) obsDeepCard

/-- THE SECOND FORM's CARD OF 'gristmilllaw11.ObsDeep'. -/
def obsDeepUptoCard : Claim7 := { stood := { row := obsDeepUptoRow, standIns := [], harness := (true, "38cf4d7a248ee22f3bbc6b0e235fb18d9f01195d63d7ac5bf47c84e3b828611d"), looks := true }, kinds := [], alts := [], laidByText := true, laidKinds := [.data, .data, .data, .sentinel, .sentinel, .sentinel, .sentinel, .sentinel, .sentinel, .sentinel, .sentinel, .sentinel, .sentinel, .sentinel, .sentinel, .sentinel, .sentinel, .sentinel, .sentinel, .sentinel, .sentinel, .sentinel, .sentinel], laidTests := true, laidLooks := .later }
def ObsDeepUptoCardSaid : Prop := Claim7.holds Tryz.pinned (.plain (OpenSpec.upto obsDeepSpec)) obsDeepUptoCard
end Rows
end Go.Proofs.YtnphjnlehehpfaaGreatDoor
