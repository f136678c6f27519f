/-
  DERIVED. GIVEN WITH THE SEED: THE CARDS: each row of YthniepenffnanaaGreatDoorRows.lean that lists a variable, with what it lists TIED to the program's text (the seventh form; the later family's looks); each row that meets fmt, with fmt's text TOLD by the authors' own Lean function (tested against real Go, not proved from fmt's source: count such statements apart). THE CARD IS WHAT COUNTS. Prove the row's statement (the work); the ties are given (YthniepenffnanaaGreatDoorTie.lean); close each card by the builder's one call (the guide's Derived/Test/ToyasCard.lean, 'card_holds'). Laid BY PROGRAM, IN A SANDBOX (cutbox-door.mjs). By AI agents, Wed Nov 11 2026. No macro, syntax, notation, axiom, sorry.
-/
import Derived.Test.YthniepenffnanaaGreatDoorRows
import GoSem.ClaimSeven
namespace Go.Proofs.YthniepenffnanaaGreatDoor
namespace Rows

/-- THE TIED CARD OF 'gristmilllaw21.PassDrops'. -/
def passDropsCard : Claim7 := { stood := { row := passDropsRow, standIns := [], harness := (true, "0d60ac32f8b66d362020fa631e6081c021840517464aee152f9c1c914e2d935b"), looks := false }, kinds := [], alts := [], laidByText := true, laidKinds := [.data, .data, .data, .sentinel, .sentinel, .sentinel, .sentinel, .sentinel, .sentinel, .sentinel, .sentinel, .sentinel, .sentinel], laidTests := true, laidLooks := .later }
def PassDropsCardSaid : Prop := Claim7.holds Tryz.pinned (.plain (OpenSpec.ofChange passDropsSpec)) passDropsCard

/-- THE TIED CARD OF 'gristmilllaw21.PassFaults'. -/
def passFaultsCard : Claim7 := { stood := { row := passFaultsRow, standIns := [], harness := (true, "0d60ac32f8b66d362020fa631e6081c021840517464aee152f9c1c914e2d935b"), looks := false }, kinds := [], alts := [], laidByText := true, laidKinds := [.data, .data, .data, .sentinel, .sentinel, .sentinel, .sentinel, .sentinel, .sentinel, .sentinel, .sentinel, .sentinel, .sentinel], laidTests := true, laidLooks := .later }
def PassFaultsCardSaid : Prop := Claim7.holds Tryz.pinned (.plain (OpenSpec.ofChange passFaultsSpec)) passFaultsCard

/-- THE TIED CARD OF 'gristmilllaw21.PassUpdates'. -/
def passUpdatesCard : Claim7 := { stood := { row := passUpdatesRow, standIns := [], harness := (true, "0d60ac32f8b66d362020fa631e6081c021840517464aee152f9c1c914e2d935b"), looks := false }, kinds := [], alts := [], laidByText := true, laidKinds := [.data, .data, .data, .sentinel, .sentinel, .sentinel, .sentinel, .sentinel, .sentinel, .sentinel, .sentinel, .sentinel, .sentinel], laidTests := true, laidLooks := .later }
def PassUpdatesCardSaid : Prop := Claim7.holds Tryz.pinned (.plain (OpenSpec.ofChange passUpdatesSpec)) passUpdatesCard

/-- THE SECOND FORM's CARD OF 'gristmilllaw21.PassDrops'. -/
def passDropsUptoCard : Claim7 := { stood := { row := passDropsUptoRow, standIns := [], harness := (true, "0d60ac32f8b66d362020fa631e6081c021840517464aee152f9c1c914e2d935b"), looks := false }, kinds := [], alts := [], laidByText := true, laidKinds := [.data, .data, .data, .sentinel, .sentinel, .sentinel, .sentinel, .sentinel, .sentinel, .sentinel, .sentinel, .sentinel, .sentinel], laidTests := true, laidLooks := .later }
def PassDropsUptoCardSaid : Prop := Claim7.holds Tryz.pinned (.plain (OpenSpec.upto passDropsSpec)) passDropsUptoCard

/-- THE SECOND FORM's CARD OF 'gristmilllaw21.PassFaults'. -/
def passFaultsUptoCard : Claim7 := { stood := { row := passFaultsUptoRow, standIns := [], harness := (true, "0d60ac32f8b66d362020fa631e6081c021840517464aee152f9c1c914e2d935b"), looks := false }, kinds := [], alts := [], laidByText := true, laidKinds := [.data, .data, .data, .sentinel, .sentinel, .sentinel, .sentinel, .sentinel, .sentinel, .sentinel, .sentinel, .sentinel, .sentinel], laidTests := true, laidLooks := .later }
def PassFaultsUptoCardSaid : Prop := Claim7.holds Tryz.pinned (.plain (OpenSpec.upto passFaultsSpec)) passFaultsUptoCard

/-- THE SECOND FORM's CARD OF 'gristmilllaw21.PassUpdates'. -/
def passUpdatesUptoCard : Claim7 := { stood := { row := passUpdatesUptoRow, standIns := [], harness := (true, "0d60ac32f8b66d362020fa631e6081c021840517464aee152f9c1c914e2d935b"), looks := false }, kinds := [], alts := [], laidByText := true, laidKinds := [.data, .data, .data, .sentinel, .sentinel, .sentinel, .sentinel, .sentinel, .sentinel, .sentinel, .sentinel, .sentinel, .sentinel], laidTests := true, laidLooks := .later }
def PassUpdatesUptoCardSaid : Prop := Claim7.holds Tryz.pinned (.plain (OpenSpec.upto passUpdatesSpec)) passUpdatesUptoCard
end Rows
end Go.Proofs.YthniepenffnanaaGreatDoor
