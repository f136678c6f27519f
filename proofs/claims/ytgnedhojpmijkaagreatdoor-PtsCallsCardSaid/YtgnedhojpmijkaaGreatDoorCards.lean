/-
  DERIVED. GIVEN WITH THE SEED: THE CARDS: each row of YtgnedhojpmijkaaGreatDoorRows.lean that lists a variable, with what it lists TIED to the program's text (the seventh form; the later family's looks); each row that meets fmt, with fmt's text TOLD by the authors' own Lean function (tested against real Go, not proved from fmt's source: count such statements apart). THE CARD IS WHAT COUNTS. Prove the row's statement (the work); the ties are given (YtgnedhojpmijkaaGreatDoorTie.lean); close each card by the builder's one call (the guide's Derived/Test/ToyasCard.lean, 'card_holds'). Laid BY PROGRAM, IN A SANDBOX (cutbox-door.mjs). By AI agents, Wed Nov 11 2026. No macro, syntax, notation, axiom, sorry.
-/
import Derived.Test.YtgnedhojpmijkaaGreatDoorRows
import GoSem.ClaimSeven
namespace Go.Proofs.YtgnedhojpmijkaaGreatDoor
namespace Rows

/-- THE TIED CARD OF 'gristmilllaw25.VmFaults'. -/
def vmFaultsCard : Claim7 := { stood := { row := vmFaultsRow, standIns := [], harness := (true, "bdcceaa530bf4538505e84183725455cd04b9e9073bb7fe5e0ac74630e8edb82"), looks := false }, kinds := [], alts := [], laidByText := true, laidKinds := [.sentinel, .sentinel, .sentinel, .sentinel, .sentinel, .sentinel, .sentinel, .sentinel, .sentinel, .sentinel], laidTests := true, laidLooks := .later }
def VmFaultsCardSaid : Prop := Claim7.holds Tryz.pinned (.plain (OpenSpec.ofChange vmFaultsSpec)) vmFaultsCard

/-- THE TIED CARD OF 'gristmilllaw25.VmFull'. -/
def vmFullCard : Claim7 := { stood := { row := vmFullRow, standIns := [], harness := (true, "bdcceaa530bf4538505e84183725455cd04b9e9073bb7fe5e0ac74630e8edb82"), looks := false }, kinds := [], alts := [], laidByText := true, laidKinds := [.data, .data, .data, .sentinel, .sentinel, .sentinel, .sentinel, .sentinel, .sentinel, .sentinel, .sentinel, .sentinel, .sentinel], laidTests := true, laidLooks := .later }
def VmFullCardSaid : Prop := Claim7.holds Tryz.pinned (.plain (OpenSpec.ofChange vmFullSpec)) vmFullCard

/-- THE TIED CARD OF 'gristmilllaw25.VmForced'. -/
def vmForcedCard : Claim7 := { stood := { row := vmForcedRow, standIns := [], harness := (true, "bdcceaa530bf4538505e84183725455cd04b9e9073bb7fe5e0ac74630e8edb82"), looks := false }, kinds := [], alts := [], laidByText := true, laidKinds := [.data, .data, .data, .sentinel, .sentinel, .sentinel, .sentinel, .sentinel, .sentinel, .sentinel, .sentinel, .sentinel, .sentinel], laidTests := true, laidLooks := .later }
def VmForcedCardSaid : Prop := Claim7.holds Tryz.pinned (.plain (OpenSpec.ofChange vmForcedSpec)) vmForcedCard

/-- THE TIED CARD OF 'gristmilllaw19.InlCalls'. -/
def inlCallsCard : Claim7 := { stood := { row := inlCallsRow, standIns := [], harness := (true, "bdcceaa530bf4538505e84183725455cd04b9e9073bb7fe5e0ac74630e8edb82"), looks := false }, kinds := [], alts := [], laidByText := true, laidKinds := [.data, .data, .data, .sentinel, .sentinel, .sentinel, .sentinel, .sentinel, .sentinel, .sentinel, .sentinel, .sentinel], laidTests := true, laidLooks := .later }
def InlCallsCardSaid : Prop := Claim7.holds Tryz.pinned (.plain (OpenSpec.ofChange inlCallsSpec)) inlCallsCard

/-- THE TIED CARD OF 'gristmilllaw18.PtsCalls'. -/
def ptsCallsCard : Claim7 := { stood := { row := ptsCallsRow, standIns := [], harness := (true, "bdcceaa530bf4538505e84183725455cd04b9e9073bb7fe5e0ac74630e8edb82"), looks := false }, kinds := [], alts := [], laidByText := true, laidKinds := [.data, .data, .data, .sentinel, .sentinel, .sentinel, .sentinel, .sentinel, .sentinel, .sentinel, .sentinel, .sentinel], laidTests := true, laidLooks := .later }
def PtsCallsCardSaid : Prop := Claim7.holds Tryz.pinned (.plain (OpenSpec.ofChange ptsCallsSpec)) ptsCallsCard

/-- THE SECOND FORM's CARD OF 'gristmilllaw25.VmFaults'. -/
def vmFaultsUptoCard : Claim7 := { stood := { row := vmFaultsUptoRow, standIns := [], harness := (true, "bdcceaa530bf4538505e84183725455cd04b9e9073bb7fe5e0ac74630e8edb82"), looks := false }, kinds := [], alts := [], laidByText := true, laidKinds := [.sentinel, .sentinel, .sentinel, .sentinel, .sentinel, .sentinel, .sentinel, .sentinel, .sentinel, .sentinel], laidTests := true, laidLooks := .later }
def VmFaultsUptoCardSaid : Prop := Claim7.holds Tryz.pinned (.plain (OpenSpec.upto vmFaultsSpec)) vmFaultsUptoCard

/-- THE SECOND FORM's CARD OF 'gristmilllaw25.VmFull'. -/
def vmFullUptoCard : Claim7 := { stood := { row := vmFullUptoRow, standIns := [], harness := (true, "bdcceaa530bf4538505e84183725455cd04b9e9073bb7fe5e0ac74630e8edb82"), looks := false }, kinds := [], alts := [], laidByText := true, laidKinds := [.data, .data, .data, .sentinel, .sentinel, .sentinel, .sentinel, .sentinel, .sentinel, .sentinel, .sentinel, .sentinel, .sentinel], laidTests := true, laidLooks := .later }
def VmFullUptoCardSaid : Prop := Claim7.holds Tryz.pinned (.plain (OpenSpec.upto vmFullSpec)) vmFullUptoCard

/-- THE SECOND FORM's CARD OF 'gristmilllaw25.VmForced'. -/
def vmForcedUptoCard : Claim7 := { stood := { row := vmForcedUptoRow, standIns := [], harness := (true, "bdcceaa530bf4538505e84183725455cd04b9e9073bb7fe5e0ac74630e8edb82"), looks := false }, kinds := [], alts := [], laidByText := true, laidKinds := [.data, .data, .data, .sentinel, .sentinel, .sentinel, .sentinel, .sentinel, .sentinel, .sentinel, .sentinel, .sentinel, .sentinel], laidTests := true, laidLooks := .later }
def VmForcedUptoCardSaid : Prop := Claim7.holds Tryz.pinned (.plain (OpenSpec.upto vmForcedSpec)) vmForcedUptoCard

/-- THE SECOND FORM's CARD OF 'gristmilllaw19.InlCalls'. -/
def inlCallsUptoCard : Claim7 := { stood := { row := inlCallsUptoRow, standIns := [], harness := (true, "bdcceaa530bf4538505e84183725455cd04b9e9073bb7fe5e0ac74630e8edb82"), looks := false }, kinds := [], alts := [], laidByText := true, laidKinds := [.data, .data, .data, .sentinel, .sentinel, .sentinel, .sentinel, .sentinel, .sentinel, .sentinel, .sentinel, .sentinel], laidTests := true, laidLooks := .later }
def InlCallsUptoCardSaid : Prop := Claim7.holds Tryz.pinned (.plain (OpenSpec.upto inlCallsSpec)) inlCallsUptoCard

/-- THE SECOND FORM's CARD OF 'gristmilllaw18.PtsCalls'. -/
def ptsCallsUptoCard : Claim7 := { stood := { row := ptsCallsUptoRow, standIns := [], harness := (true, "bdcceaa530bf4538505e84183725455cd04b9e9073bb7fe5e0ac74630e8edb82"), looks := false }, kinds := [], alts := [], laidByText := true, laidKinds := [.data, .data, .data, .sentinel, .sentinel, .sentinel, .sentinel, .sentinel, .sentinel, .sentinel, .sentinel, .sentinel], laidTests := true, laidLooks := .later }
def PtsCallsUptoCardSaid : Prop := Claim7.holds Tryz.pinned (.plain (OpenSpec.upto ptsCallsSpec)) ptsCallsUptoCard
end Rows
end Go.Proofs.YtgnedhojpmijkaaGreatDoor
