/-
  DERIVED. GIVEN WITH THE SEED: THE CARDS: each row of YtefpobnljhogoaaGreatDoorRows.lean that lists a variable, with what it lists TIED to the program's text (the seventh form; the later family's looks); each row that meets fmt, with fmt's text TOLD by the authors' own Lean function (tested against real Go, not proved from fmt's source: count such statements apart). THE CARD IS WHAT COUNTS. Prove the row's statement (the work); the ties are given (YtefpobnljhogoaaGreatDoorTie.lean); close each card by the builder's one call (the guide's Derived/Test/ToyasCard.lean, 'card_holds'). Laid BY PROGRAM, IN A SANDBOX (cutbox-door.mjs). By AI agents, Wed Nov 11 2026. No macro, syntax, notation, axiom, sorry.
-/
import Derived.Test.YtefpobnljhogoaaGreatDoorRows
import GoSem.ClaimSeven
namespace Go.Proofs.YtefpobnljhogoaaGreatDoor
namespace Rows

/-- THE TIED CARD OF 'gristmilllaw12.MeanLazy'. -/
def meanLazyCard : Claim7 := { stood := { row := meanLazyRow, standIns := [], harness := (true, "18d0799512d9777068842ddf9be5523d437620f66b8fd60c628f59af0605095a"), looks := false }, kinds := [], alts := [], laidByText := true, laidKinds := [.data, .data, .data, .sentinel, .sentinel, .sentinel, .sentinel, .sentinel, .sentinel, .sentinel, .sentinel], laidTests := true, laidLooks := .later }
def MeanLazyCardSaid : Prop := Claim7.holds Tryz.pinned (.plain (OpenSpec.ofChange meanLazySpec)) meanLazyCard

/-- THE TIED CARD OF 'gristmilllaw12.MeanLists'. -/
def meanListsCard : Claim7 := { stood := { row := meanListsRow, standIns := [], harness := (true, "18d0799512d9777068842ddf9be5523d437620f66b8fd60c628f59af0605095a"), looks := false }, kinds := [], alts := [], laidByText := true, laidKinds := [.data, .data, .data, .sentinel, .sentinel, .sentinel, .sentinel, .sentinel, .sentinel, .sentinel, .sentinel], laidTests := true, laidLooks := .later }
def MeanListsCardSaid : Prop := Claim7.holds Tryz.pinned (.plain (OpenSpec.ofChange meanListsSpec)) meanListsCard

/-- THE TIED CARD OF 'gristmilllaw12.MeanOrder'. -/
def meanOrderCard : Claim7 := { stood := { row := meanOrderRow, standIns := [], harness := (true, "18d0799512d9777068842ddf9be5523d437620f66b8fd60c628f59af0605095a"), looks := false }, kinds := [], alts := [], laidByText := true, laidKinds := [.data, .data, .data, .sentinel, .sentinel, .sentinel, .sentinel, .sentinel, .sentinel, .sentinel, .sentinel], laidTests := true, laidLooks := .later }
def MeanOrderCardSaid : Prop := Claim7.holds Tryz.pinned (.plain (OpenSpec.ofChange meanOrderSpec)) meanOrderCard

/-- THE TIED CARD OF 'gristmilllaw12.MeanCases'. -/
def meanCasesCard : Claim7 := { stood := { row := meanCasesRow, standIns := [], harness := (true, "18d0799512d9777068842ddf9be5523d437620f66b8fd60c628f59af0605095a"), looks := false }, kinds := [], alts := [], laidByText := true, laidKinds := [.data, .data, .data, .sentinel, .sentinel, .sentinel, .sentinel, .sentinel, .sentinel, .sentinel, .sentinel], laidTests := true, laidLooks := .later }
def MeanCasesCardSaid : Prop := Claim7.holds Tryz.pinned (.plain (OpenSpec.ofChange meanCasesSpec)) meanCasesCard

/-- THE TIED CARD OF 'gristmilllaw12.MeanParts'. -/
def meanPartsCard : Claim7 := { stood := { row := meanPartsRow, standIns := [], harness := (true, "18d0799512d9777068842ddf9be5523d437620f66b8fd60c628f59af0605095a"), looks := false }, kinds := [], alts := [], laidByText := true, laidKinds := [.data, .data, .data, .sentinel, .sentinel, .sentinel, .sentinel, .sentinel, .sentinel, .sentinel, .sentinel], laidTests := true, laidLooks := .later }
def MeanPartsCardSaid : Prop := Claim7.holds Tryz.pinned (.plain (OpenSpec.ofChange meanPartsSpec)) meanPartsCard

/-- THE TIED CARD OF 'gristmilllaw13.LiftNests'. -/
def liftNestsCard : Claim7 := { stood := { row := liftNestsRow, standIns := [], harness := (true, "18d0799512d9777068842ddf9be5523d437620f66b8fd60c628f59af0605095a"), looks := false }, kinds := [], alts := [], laidByText := true, laidKinds := [.data, .data, .data, .sentinel, .sentinel, .sentinel, .sentinel, .sentinel, .sentinel, .sentinel, .sentinel], laidTests := true, laidLooks := .later }
def LiftNestsCardSaid : Prop := Claim7.holds Tryz.pinned (.plain (OpenSpec.ofChange liftNestsSpec)) liftNestsCard

/-- THE SECOND FORM's CARD OF 'gristmilllaw12.MeanLazy'. -/
def meanLazyUptoCard : Claim7 := { stood := { row := meanLazyUptoRow, standIns := [], harness := (true, "18d0799512d9777068842ddf9be5523d437620f66b8fd60c628f59af0605095a"), looks := false }, kinds := [], alts := [], laidByText := true, laidKinds := [.data, .data, .data, .sentinel, .sentinel, .sentinel, .sentinel, .sentinel, .sentinel, .sentinel, .sentinel], laidTests := true, laidLooks := .later }
def MeanLazyUptoCardSaid : Prop := Claim7.holds Tryz.pinned (.plain (OpenSpec.upto meanLazySpec)) meanLazyUptoCard

/-- THE SECOND FORM's CARD OF 'gristmilllaw12.MeanLists'. -/
def meanListsUptoCard : Claim7 := { stood := { row := meanListsUptoRow, standIns := [], harness := (true, "18d0799512d9777068842ddf9be5523d437620f66b8fd60c628f59af0605095a"), looks := false }, kinds := [], alts := [], laidByText := true, laidKinds := [.data, .data, .data, .sentinel, .sentinel, .sentinel, .sentinel, .sentinel, .sentinel, .sentinel, .sentinel], laidTests := true, laidLooks := .later }
def MeanListsUptoCardSaid : Prop := Claim7.holds Tryz.pinned (.plain (OpenSpec.upto meanListsSpec)) meanListsUptoCard

/-- THE SECOND FORM's CARD OF 'gristmilllaw12.MeanOrder'. -/
def meanOrderUptoCard : Claim7 := { stood := { row := meanOrderUptoRow, standIns := [], harness := (true, "18d0799512d9777068842ddf9be5523d437620f66b8fd60c628f59af0605095a"), looks := false }, kinds := [], alts := [], laidByText := true, laidKinds := [.data, .data, .data, .sentinel, .sentinel, .sentinel, .sentinel, .sentinel, .sentinel, .sentinel, .sentinel], laidTests := true, laidLooks := .later }
def MeanOrderUptoCardSaid : Prop := Claim7.holds Tryz.pinned (.plain (OpenSpec.upto meanOrderSpec)) meanOrderUptoCard

/-- THE SECOND FORM's CARD OF 'gristmilllaw12.MeanCases'. -/
def meanCasesUptoCard : Claim7 := { stood := { row := meanCasesUptoRow, standIns := [], harness := (true, "18d0799512d9777068842ddf9be5523d437620f66b8fd60c628f59af0605095a"), looks := false }, kinds := [], alts := [], laidByText := true, laidKinds := [.data, .data, .data, .sentinel, .sentinel, .sentinel, .sentinel, .sentinel, .sentinel, .sentinel, .sentinel], laidTests := true, laidLooks := .later }
def MeanCasesUptoCardSaid : Prop := Claim7.holds Tryz.pinned (.plain (OpenSpec.upto meanCasesSpec)) meanCasesUptoCard

/-- THE SECOND FORM's CARD OF 'gristmilllaw12.MeanParts'. -/
def meanPartsUptoCard : Claim7 := { stood := { row := meanPartsUptoRow, standIns := [], harness := (true, "18d0799512d9777068842ddf9be5523d437620f66b8fd60c628f59af0605095a"), looks := false }, kinds := [], alts := [], laidByText := true, laidKinds := [.data, .data, .data, .sentinel, .sentinel, .sentinel, .sentinel, .sentinel, .sentinel, .sentinel, .sentinel], laidTests := true, laidLooks := .later }
def MeanPartsUptoCardSaid : Prop := Claim7.holds Tryz.pinned (.plain (OpenSpec.upto meanPartsSpec)) meanPartsUptoCard

/-- THE SECOND FORM's CARD OF 'gristmilllaw13.LiftNests'. -/
def liftNestsUptoCard : Claim7 := { stood := { row := liftNestsUptoRow, standIns := [], harness := (true, "18d0799512d9777068842ddf9be5523d437620f66b8fd60c628f59af0605095a"), looks := false }, kinds := [], alts := [], laidByText := true, laidKinds := [.data, .data, .data, .sentinel, .sentinel, .sentinel, .sentinel, .sentinel, .sentinel, .sentinel, .sentinel], laidTests := true, laidLooks := .later }
def LiftNestsUptoCardSaid : Prop := Claim7.holds Tryz.pinned (.plain (OpenSpec.upto liftNestsSpec)) liftNestsUptoCard
end Rows
end Go.Proofs.YtefpobnljhogoaaGreatDoor
