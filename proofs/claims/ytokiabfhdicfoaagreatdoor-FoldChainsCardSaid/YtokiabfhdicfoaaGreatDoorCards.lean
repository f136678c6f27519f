/-
  DERIVED. GIVEN WITH THE SEED: THE CARDS: each row of YtokiabfhdicfoaaGreatDoorRows.lean that lists a variable, with what it lists TIED to the program's text (the seventh form; the later family's looks); each row that meets fmt, with fmt's text TOLD by the authors' own Lean function (tested against real Go, not proved from fmt's source: count such statements apart). THE CARD IS WHAT COUNTS. Prove the row's statement (the work); the ties are given (YtokiabfhdicfoaaGreatDoorTie.lean); close each card by the builder's one call (the guide's Derived/Test/ToyasCard.lean, 'card_holds'). Laid BY PROGRAM, IN A SANDBOX (cutbox-door.mjs). By AI agents, Wed Nov 11 2026. No macro, syntax, notation, axiom, sorry.
-/
import Derived.Test.YtokiabfhdicfoaaGreatDoorRows
import GoSem.ClaimSeven
namespace Go.Proofs.YtokiabfhdicfoaaGreatDoor
namespace Rows

/-- THE TIED CARD OF 'gristmilllaw20.FoldChains'. -/
def foldChainsCard : Claim7 := { stood := { row := foldChainsRow, standIns := [], harness := (true, "92c46a1d2cd2ab8c1d0493194f66b94f1ced8fc70e3d896fe6e5a16e29d43900"), looks := false }, kinds := [], alts := [], laidByText := true, laidKinds := [.data, .data, .data, .sentinel, .sentinel, .sentinel, .sentinel, .sentinel, .sentinel, .sentinel, .sentinel, .sentinel], laidTests := true, laidLooks := .later }
def FoldChainsCardSaid : Prop := Claim7.holds Tryz.pinned (.plain (OpenSpec.ofChange foldChainsSpec)) foldChainsCard

/-- THE SECOND FORM's CARD OF 'gristmilllaw20.FoldChains'. -/
def foldChainsUptoCard : Claim7 := { stood := { row := foldChainsUptoRow, standIns := [], harness := (true, "92c46a1d2cd2ab8c1d0493194f66b94f1ced8fc70e3d896fe6e5a16e29d43900"), looks := false }, kinds := [], alts := [], laidByText := true, laidKinds := [.data, .data, .data, .sentinel, .sentinel, .sentinel, .sentinel, .sentinel, .sentinel, .sentinel, .sentinel, .sentinel], laidTests := true, laidLooks := .later }
def FoldChainsUptoCardSaid : Prop := Claim7.holds Tryz.pinned (.plain (OpenSpec.upto foldChainsSpec)) foldChainsUptoCard
end Rows
end Go.Proofs.YtokiabfhdicfoaaGreatDoor
