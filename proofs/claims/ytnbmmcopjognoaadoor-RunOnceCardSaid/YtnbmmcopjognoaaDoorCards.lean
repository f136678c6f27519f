/-
  DERIVED. GIVEN WITH THE SEED: THE CARDS: each row of YtnbmmcopjognoaaDoorRows.lean that lists a variable, with what it lists TIED to the program's text (the seventh form; the later family's looks); each row that meets fmt, with fmt's text TOLD by the authors' own Lean function (tested against real Go, not proved from fmt's source: count such statements apart). THE CARD IS WHAT COUNTS. Prove the row's statement (the work); the ties are given (YtnbmmcopjognoaaDoorTie.lean); close each card by the builder's one call (the guide's Derived/Test/ToyasCard.lean, 'card_holds'). Laid BY PROGRAM, IN A SANDBOX (cutbox-door.mjs). By AI agents, Wed Nov 11 2026. No macro, syntax, notation, axiom, sorry.
-/
import Derived.Test.YtnbmmcopjognoaaDoorRows
import GoSem.ClaimSeven
namespace Go.Proofs.YtnbmmcopjognoaaDoor
namespace Rows

/-- THE TIED CARD OF 'gristmilllaw15.GrinWrong'. -/
def grinWrongCard : Claim7 := { stood := { row := grinWrongRow, standIns := [], harness := (true, "338a743ed7b350e17ca64e16af847748f7d7c6f0cc12b9cadd4ad047d12299bf"), looks := true }, kinds := [], alts := [], laidByText := true, laidKinds := [.data, .data, .data, .sentinel, .sentinel, .sentinel, .sentinel, .sentinel, .sentinel, .sentinel, .sentinel, .sentinel, .sentinel, .sentinel, .sentinel, .sentinel, .sentinel, .sentinel, .sentinel, .sentinel, .sentinel], laidTests := true, laidLooks := .later }
def GrinWrongCardSaid : Prop := Claim7.holds Tryd.pinned (.plain (OpenSpec.ofChange grinWrongSpec)) grinWrongCard

/-- THE TIED CARD OF 'gristmilllaw15.GrinBranches'. -/
def grinBranchesCard : Claim7 := { stood := { row := grinBranchesRow, standIns := [], harness := (true, "338a743ed7b350e17ca64e16af847748f7d7c6f0cc12b9cadd4ad047d12299bf"), looks := true }, kinds := [], alts := [], laidByText := true, laidKinds := [.data, .data, .data, .sentinel, .sentinel, .sentinel, .sentinel, .sentinel, .sentinel, .sentinel, .sentinel, .sentinel, .sentinel, .sentinel, .sentinel, .sentinel, .sentinel, .sentinel, .sentinel, .sentinel, .sentinel], laidTests := true, laidLooks := .later }
def GrinBranchesCardSaid : Prop := Claim7.holds Tryd.pinned (.plain (OpenSpec.ofChange grinBranchesSpec)) grinBranchesCard

/-- THE TIED CARD OF 'gristmilllaw17.RunFaults'. -/
def runFaultsCard : Claim7 := { stood := { row := runFaultsRow, standIns := [], harness := (true, "338a743ed7b350e17ca64e16af847748f7d7c6f0cc12b9cadd4ad047d12299bf"), looks := true }, kinds := [], alts := [], laidByText := true, laidKinds := [.sentinel, .sentinel, .sentinel, .sentinel, .sentinel, .sentinel, .sentinel, .sentinel, .sentinel], laidTests := true, laidLooks := .later }
def RunFaultsCardSaid : Prop := Claim7.holds Tryd.pinned (.plain (OpenSpec.ofChange runFaultsSpec)) runFaultsCard

/-- THE TIED CARD OF 'gristmilllaw17.RunOnce'. -/
def runOnceCard : Claim7 := { stood := { row := runOnceRow, standIns := [], harness := (true, "338a743ed7b350e17ca64e16af847748f7d7c6f0cc12b9cadd4ad047d12299bf"), looks := true }, kinds := [], alts := [], laidByText := true, laidKinds := [.data, .data, .data, .sentinel, .sentinel, .sentinel, .sentinel, .sentinel, .sentinel, .sentinel, .sentinel, .sentinel], laidTests := true, laidLooks := .later }
def RunOnceCardSaid : Prop := Claim7.holds Tryd.pinned (.plain (OpenSpec.ofChange runOnceSpec)) runOnceCard

/-- THE TIED CARD OF 'gristmilllaw17.RunApplies'. -/
def runAppliesCard : Claim7 := { stood := { row := runAppliesRow, standIns := [], harness := (true, "338a743ed7b350e17ca64e16af847748f7d7c6f0cc12b9cadd4ad047d12299bf"), looks := true }, kinds := [], alts := [], laidByText := true, laidKinds := [.data, .data, .data, .sentinel, .sentinel, .sentinel, .sentinel, .sentinel, .sentinel, .sentinel, .sentinel, .sentinel], laidTests := true, laidLooks := .later }
def RunAppliesCardSaid : Prop := Claim7.holds Tryd.pinned (.plain (OpenSpec.ofChange runAppliesSpec)) runAppliesCard

/-- THE TIED CARD OF 'gristmilllaw17.RunTrees'. -/
def runTreesCard : Claim7 := { stood := { row := runTreesRow, standIns := [], harness := (true, "338a743ed7b350e17ca64e16af847748f7d7c6f0cc12b9cadd4ad047d12299bf"), looks := true }, kinds := [], alts := [], laidByText := true, laidKinds := [.data, .data, .data, .sentinel, .sentinel, .sentinel, .sentinel, .sentinel, .sentinel, .sentinel, .sentinel, .sentinel], laidTests := true, laidLooks := .later }
def RunTreesCardSaid : Prop := Claim7.holds Tryd.pinned (.plain (OpenSpec.ofChange runTreesSpec)) runTreesCard

/-- THE SECOND FORM's CARD OF 'gristmilllaw15.GrinWrong'. -/
def grinWrongUptoCard : Claim7 := { stood := { row := grinWrongUptoRow, standIns := [], harness := (true, "338a743ed7b350e17ca64e16af847748f7d7c6f0cc12b9cadd4ad047d12299bf"), looks := true }, kinds := [], alts := [], laidByText := true, laidKinds := [.data, .data, .data, .sentinel, .sentinel, .sentinel, .sentinel, .sentinel, .sentinel, .sentinel, .sentinel, .sentinel, .sentinel, .sentinel, .sentinel, .sentinel, .sentinel, .sentinel, .sentinel, .sentinel, .sentinel], laidTests := true, laidLooks := .later }
def GrinWrongUptoCardSaid : Prop := Claim7.holds Tryd.pinned (.plain (OpenSpec.upto grinWrongSpec)) grinWrongUptoCard

/-- THE SECOND FORM's CARD OF 'gristmilllaw15.GrinBranches'. -/
def grinBranchesUptoCard : Claim7 := { stood := { row := grinBranchesUptoRow, standIns := [], harness := (true, "338a743ed7b350e17ca64e16af847748f7d7c6f0cc12b9cadd4ad047d12299bf"), looks := true }, kinds := [], alts := [], laidByText := true, laidKinds := [.data, .data, .data, .sentinel, .sentinel, .sentinel, .sentinel, .sentinel, .sentinel, .sentinel, .sentinel, .sentinel, .sentinel, .sentinel, .sentinel, .sentinel, .sentinel, .sentinel, .sentinel, .sentinel, .sentinel], laidTests := true, laidLooks := .later }
def GrinBranchesUptoCardSaid : Prop := Claim7.holds Tryd.pinned (.plain (OpenSpec.upto grinBranchesSpec)) grinBranchesUptoCard

/-- THE SECOND FORM's CARD OF 'gristmilllaw17.RunFaults'. -/
def runFaultsUptoCard : Claim7 := { stood := { row := runFaultsUptoRow, standIns := [], harness := (true, "338a743ed7b350e17ca64e16af847748f7d7c6f0cc12b9cadd4ad047d12299bf"), looks := true }, kinds := [], alts := [], laidByText := true, laidKinds := [.sentinel, .sentinel, .sentinel, .sentinel, .sentinel, .sentinel, .sentinel, .sentinel, .sentinel], laidTests := true, laidLooks := .later }
def RunFaultsUptoCardSaid : Prop := Claim7.holds Tryd.pinned (.plain (OpenSpec.upto runFaultsSpec)) runFaultsUptoCard

/-- THE SECOND FORM's CARD OF 'gristmilllaw17.RunOnce'. -/
def runOnceUptoCard : Claim7 := { stood := { row := runOnceUptoRow, standIns := [], harness := (true, "338a743ed7b350e17ca64e16af847748f7d7c6f0cc12b9cadd4ad047d12299bf"), looks := true }, kinds := [], alts := [], laidByText := true, laidKinds := [.data, .data, .data, .sentinel, .sentinel, .sentinel, .sentinel, .sentinel, .sentinel, .sentinel, .sentinel, .sentinel], laidTests := true, laidLooks := .later }
def RunOnceUptoCardSaid : Prop := Claim7.holds Tryd.pinned (.plain (OpenSpec.upto runOnceSpec)) runOnceUptoCard

/-- THE SECOND FORM's CARD OF 'gristmilllaw17.RunApplies'. -/
def runAppliesUptoCard : Claim7 := { stood := { row := runAppliesUptoRow, standIns := [], harness := (true, "338a743ed7b350e17ca64e16af847748f7d7c6f0cc12b9cadd4ad047d12299bf"), looks := true }, kinds := [], alts := [], laidByText := true, laidKinds := [.data, .data, .data, .sentinel, .sentinel, .sentinel, .sentinel, .sentinel, .sentinel, .sentinel, .sentinel, .sentinel], laidTests := true, laidLooks := .later }
def RunAppliesUptoCardSaid : Prop := Claim7.holds Tryd.pinned (.plain (OpenSpec.upto runAppliesSpec)) runAppliesUptoCard

/-- THE SECOND FORM's CARD OF 'gristmilllaw17.RunTrees'. -/
def runTreesUptoCard : Claim7 := { stood := { row := runTreesUptoRow, standIns := [], harness := (true, "338a743ed7b350e17ca64e16af847748f7d7c6f0cc12b9cadd4ad047d12299bf"), looks := true }, kinds := [], alts := [], laidByText := true, laidKinds := [.data, .data, .data, .sentinel, .sentinel, .sentinel, .sentinel, .sentinel, .sentinel, .sentinel, .sentinel, .sentinel], laidTests := true, laidLooks := .later }
def RunTreesUptoCardSaid : Prop := Claim7.holds Tryd.pinned (.plain (OpenSpec.upto runTreesSpec)) runTreesUptoCard
end Rows
end Go.Proofs.YtnbmmcopjognoaaDoor
