/-
  DERIVED. GIVEN WITH THE SEED: THE CARDS: each row of YthagclejgedmfaaGreatDoorRows.lean that lists a variable, with what it lists TIED to the program's text (the seventh form; the later family's looks); each row that meets fmt, with fmt's text TOLD by the authors' own Lean function (tested against real Go, not proved from fmt's source: count such statements apart). THE CARD IS WHAT COUNTS. Prove the row's statement (the work); the ties are given (YthagclejgedmfaaGreatDoorTie.lean); close each card by the builder's one call (the guide's Derived/Test/ToyasCard.lean, 'card_holds'). Laid BY PROGRAM, IN A SANDBOX (cutbox-door.mjs). By AI agents, Wed Nov 11 2026. No macro, syntax, notation, axiom, sorry.
-/
import Derived.Test.YthagclejgedmfaaGreatDoorRows
import GoSem.ClaimSeven
namespace Go.Proofs.YthagclejgedmfaaGreatDoor
namespace Rows

/-- THE TIED CARD OF 'gristmilllaw20.FoldFaults'. -/
def foldFaultsCard : Claim7 := { stood := { row := foldFaultsRow, standIns := [], harness := (true, "a62c184c9005f944f77a1cb07cb062dae06c55630a4aebd795352f63c2f2211c"), looks := true }, kinds := [], alts := [], laidByText := true, laidKinds := [.sentinel, .sentinel, .sentinel, .sentinel, .sentinel, .sentinel, .sentinel, .sentinel, .sentinel], laidTests := true, laidLooks := .later }
def FoldFaultsCardSaid : Prop := Claim7.holds Tryz.pinned (.plain (OpenSpec.ofChange foldFaultsSpec)) foldFaultsCard

/-- THE TIED CARD OF 'gristmilllaw20.FoldChains'. -/
def foldChainsCard : Claim7 := { stood := { row := foldChainsRow, standIns := [], harness := (true, "a62c184c9005f944f77a1cb07cb062dae06c55630a4aebd795352f63c2f2211c"), looks := true }, kinds := [], alts := [], laidByText := true, laidKinds := [.data, .data, .data, .sentinel, .sentinel, .sentinel, .sentinel, .sentinel, .sentinel, .sentinel, .sentinel, .sentinel], laidTests := true, laidLooks := .later }
def FoldChainsCardSaid : Prop := Claim7.holds Tryz.pinned (.plain (OpenSpec.ofChange foldChainsSpec)) foldChainsCard

/-- THE TIED CARD OF 'gristmilllaw6.ScopeWrong'. -/
def scopeWrongCard : Claim7 := { stood := { row := scopeWrongRow, standIns := [], harness := (true, "a62c184c9005f944f77a1cb07cb062dae06c55630a4aebd795352f63c2f2211c"), looks := true }, kinds := [], alts := [], laidByText := true, laidKinds := [.data, .data, .data, .sentinel, .sentinel, .sentinel, .sentinel, .sentinel, .sentinel, .sentinel, .sentinel, .sentinel, .sentinel, .sentinel, .sentinel, .sentinel, .sentinel, .sentinel, .sentinel, .sentinel, .sentinel], laidTests := true, laidLooks := .later }
def ScopeWrongCardSaid : Prop := Claim7.holds Tryz.pinned (.plain (OpenSpec.ofChange scopeWrongSpec)) scopeWrongCard

/-- THE TIED CARD OF 'gristmilllaw6.ScopeShadows'. -/
def scopeShadowsCard : Claim7 := { stood := { row := scopeShadowsRow, standIns := [], harness := (true, "a62c184c9005f944f77a1cb07cb062dae06c55630a4aebd795352f63c2f2211c"), looks := true }, kinds := [], alts := [], laidByText := true, laidKinds := [.data, .data, .data, .sentinel, .sentinel, .sentinel, .sentinel, .sentinel, .sentinel, .sentinel, .sentinel, .sentinel, .sentinel, .sentinel, .sentinel, .sentinel, .sentinel, .sentinel, .sentinel, .sentinel, .sentinel], laidTests := true, laidLooks := .later }
def ScopeShadowsCardSaid : Prop := Claim7.holds Tryz.pinned (.plain (OpenSpec.ofChange scopeShadowsSpec)) scopeShadowsCard

/-- THE TIED CARD OF 'gristmilllaw11.ObsDeep'. -/
def obsDeepCard : Claim7 := { stood := { row := obsDeepRow, standIns := [], harness := (true, "a62c184c9005f944f77a1cb07cb062dae06c55630a4aebd795352f63c2f2211c"), looks := true }, kinds := [], alts := [], laidByText := true, laidKinds := [.data, .data, .data, .sentinel, .sentinel, .sentinel, .sentinel, .sentinel, .sentinel, .sentinel, .sentinel, .sentinel, .sentinel, .sentinel, .sentinel, .sentinel, .sentinel, .sentinel, .sentinel, .sentinel, .sentinel, .sentinel, .sentinel], laidTests := true, laidLooks := .later }
def ObsDeepCardSaid : Prop := Claim7.holds Tryz.pinned (.plain (OpenSpec.ofChange obsDeepSpec)) obsDeepCard

/-- THE SECOND FORM's CARD OF 'gristmilllaw20.FoldFaults'. -/
def foldFaultsUptoCard : Claim7 := { stood := { row := foldFaultsUptoRow, standIns := [], harness := (true, "a62c184c9005f944f77a1cb07cb062dae06c55630a4aebd795352f63c2f2211c"), looks := true }, kinds := [], alts := [], laidByText := true, laidKinds := [.sentinel, .sentinel, .sentinel, .sentinel, .sentinel, .sentinel, .sentinel, .sentinel, .sentinel], laidTests := true, laidLooks := .later }
def FoldFaultsUptoCardSaid : Prop := Claim7.holds Tryz.pinned (.plain (OpenSpec.upto foldFaultsSpec)) foldFaultsUptoCard

/-- THE SECOND FORM's CARD OF 'gristmilllaw20.FoldChains'. -/
def foldChainsUptoCard : Claim7 := { stood := { row := foldChainsUptoRow, standIns := [], harness := (true, "a62c184c9005f944f77a1cb07cb062dae06c55630a4aebd795352f63c2f2211c"), looks := true }, kinds := [], alts := [], laidByText := true, laidKinds := [.data, .data, .data, .sentinel, .sentinel, .sentinel, .sentinel, .sentinel, .sentinel, .sentinel, .sentinel, .sentinel], laidTests := true, laidLooks := .later }
def FoldChainsUptoCardSaid : Prop := Claim7.holds Tryz.pinned (.plain (OpenSpec.upto foldChainsSpec)) foldChainsUptoCard

/-- THE SECOND FORM's CARD OF 'gristmilllaw6.ScopeWrong'. -/
def scopeWrongUptoCard : Claim7 := { stood := { row := scopeWrongUptoRow, standIns := [], harness := (true, "a62c184c9005f944f77a1cb07cb062dae06c55630a4aebd795352f63c2f2211c"), looks := true }, kinds := [], alts := [], laidByText := true, laidKinds := [.data, .data, .data, .sentinel, .sentinel, .sentinel, .sentinel, .sentinel, .sentinel, .sentinel, .sentinel, .sentinel, .sentinel, .sentinel, .sentinel, .sentinel, .sentinel, .sentinel, .sentinel, .sentinel, .sentinel], laidTests := true, laidLooks := .later }
def ScopeWrongUptoCardSaid : Prop := Claim7.holds Tryz.pinned (.plain (OpenSpec.upto scopeWrongSpec)) scopeWrongUptoCard

/-- THE SECOND FORM's CARD OF 'gristmilllaw6.ScopeShadows'. -/
def scopeShadowsUptoCard : Claim7 := { stood := { row := scopeShadowsUptoRow, standIns := [], harness := (true, "a62c184c9005f944f77a1cb07cb062dae06c55630a4aebd795352f63c2f2211c"), looks := true }, kinds := [], alts := [], laidByText := true, laidKinds := [.data, .data, .data, .sentinel, .sentinel, .sentinel, .sentinel, .sentinel, .sentinel, .sentinel, .sentinel, .sentinel, .sentinel, .sentinel, .sentinel, .sentinel, .sentinel, .sentinel, .sentinel, .sentinel, .sentinel], laidTests := true, laidLooks := .later }
def ScopeShadowsUptoCardSaid : Prop := Claim7.holds Tryz.pinned (.plain (OpenSpec.upto scopeShadowsSpec)) scopeShadowsUptoCard

/-- THE SECOND FORM's CARD OF 'gristmilllaw11.ObsDeep'. -/
def obsDeepUptoCard : Claim7 := { stood := { row := obsDeepUptoRow, standIns := [], harness := (true, "a62c184c9005f944f77a1cb07cb062dae06c55630a4aebd795352f63c2f2211c"), looks := true }, kinds := [], alts := [], laidByText := true, laidKinds := [.data, .data, .data, .sentinel, .sentinel, .sentinel, .sentinel, .sentinel, .sentinel, .sentinel, .sentinel, .sentinel, .sentinel, .sentinel, .sentinel, .sentinel, .sentinel, .sentinel, .sentinel, .sentinel, .sentinel, .sentinel, .sentinel], laidTests := true, laidLooks := .later }
def ObsDeepUptoCardSaid : Prop := Claim7.holds Tryz.pinned (.plain (OpenSpec.upto obsDeepSpec)) obsDeepUptoCard
end Rows
end Go.Proofs.YthagclejgedmfaaGreatDoor
