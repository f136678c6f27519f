/-
  DERIVED. GIVEN WITH THE SEED: THE CARDS: each row of YtfdkdghhdigfbaaDoorRows.lean that lists a variable, with what it lists TIED to the program's text (the seventh form; the later family's looks); each row that meets fmt, with fmt's text TOLD by the authors' own Lean function (tested against real Go, not proved from fmt's source: count such statements apart). THE CARD IS WHAT COUNTS. Prove the row's statement (the work); the ties are given (YtfdkdghhdigfbaaDoorTie.lean); close each card by the builder's one call (the guide's Derived/Test/ToyasCard.lean, 'card_holds'). Laid BY PROGRAM, IN A SANDBOX (cutbox-door.mjs). By AI agents, Wed Nov 11 2026. No macro, syntax, notation, axiom, sorry.
-/
import Derived.Test.YtfdkdghhdigfbaaDoorRows
import GoSem.ClaimSeven
namespace Go.Proofs.YtfdkdghhdigfbaaDoor
namespace Rows

/-- THE TIED CARD OF 'gristmilllaw23.CodeTails'. -/
def codeTailsCard : Claim7 := { stood := { row := codeTailsRow, standIns := [], harness := (true, "ffa7b568ff8d8b948d25d882c8b3beed6d86a3d5df933554246e6ee3490f36db"), looks := false }, kinds := [], alts := [], laidByText := true, laidKinds := [.sentinel, .sentinel, .sentinel], laidTests := true, laidLooks := .later }
def CodeTailsCardSaid : Prop := Claim7.holds Tryd.pinned (.plain (OpenSpec.ofChange codeTailsSpec)) codeTailsCard

/-- THE TIED CARD OF 'gristmilllaw23.CodeReads'. -/
def codeReadsCard : Claim7 := { stood := { row := codeReadsRow, standIns := [], harness := (true, "ffa7b568ff8d8b948d25d882c8b3beed6d86a3d5df933554246e6ee3490f36db"), looks := false }, kinds := [], alts := [], laidByText := true, laidKinds := [.sentinel, .sentinel, .sentinel], laidTests := true, laidLooks := .later }
def CodeReadsCardSaid : Prop := Claim7.holds Tryd.pinned (.plain (OpenSpec.ofChange codeReadsSpec)) codeReadsCard

/-- THE SECOND FORM's CARD OF 'gristmilllaw23.CodeTails'. -/
def codeTailsUptoCard : Claim7 := { stood := { row := codeTailsUptoRow, standIns := [], harness := (true, "ffa7b568ff8d8b948d25d882c8b3beed6d86a3d5df933554246e6ee3490f36db"), looks := false }, kinds := [], alts := [], laidByText := true, laidKinds := [.sentinel, .sentinel, .sentinel], laidTests := true, laidLooks := .later }
def CodeTailsUptoCardSaid : Prop := Claim7.holds Tryd.pinned (.plain (OpenSpec.upto codeTailsSpec)) codeTailsUptoCard

/-- THE SECOND FORM's CARD OF 'gristmilllaw23.CodeReads'. -/
def codeReadsUptoCard : Claim7 := { stood := { row := codeReadsUptoRow, standIns := [], harness := (true, "ffa7b568ff8d8b948d25d882c8b3beed6d86a3d5df933554246e6ee3490f36db"), looks := false }, kinds := [], alts := [], laidByText := true, laidKinds := [.sentinel, .sentinel, .sentinel], laidTests := true, laidLooks := .later }
def CodeReadsUptoCardSaid : Prop := Claim7.holds Tryd.pinned (.plain (OpenSpec.upto codeReadsSpec)) codeReadsUptoCard
end Rows
end Go.Proofs.YtfdkdghhdigfbaaDoor
