/-
  DERIVED. GIVEN WITH THE SEED: THE CARDS: each row of YtnggflfjmgbncaaDoorRows.lean that lists a variable, with what it lists TIED to the program's text (the seventh form; the later family's looks); each row that meets fmt, with fmt's text TOLD by the authors' own Lean function (tested against real Go, not proved from fmt's source: count such statements apart). THE CARD IS WHAT COUNTS. Prove the row's statement (the work); the ties are given (YtnggflfjmgbncaaDoorTie.lean); close each card by the builder's one call (the guide's Derived/Test/ToyasCard.lean, 'card_holds'). Laid BY PROGRAM, IN A SANDBOX (cutbox-door.mjs). By AI agents, Wed Nov 11 2026. No macro, syntax, notation, axiom, sorry.
-/
import Derived.Test.YtnggflfjmgbncaaDoorRows
import GoSem.ClaimSeven
namespace Go.Proofs.YtnggflfjmgbncaaDoor
namespace Rows

/-- THE TIED CARD OF 'gristmilllaw1.FloSays'. -/
def floSaysCard : Claim7 := { stood := { row := floSaysRow, standIns := [], harness := (true, "2dfd24a99449962994f58e9815aaed81acd26982caa37637cc6faa2881f7db63"), looks := true }, kinds := [], alts := [], laidByText := true, laidKinds := [.data, .data, .data, .sentinel, .sentinel, .sentinel, .sentinel, .sentinel, .sentinel, .sentinel, .sentinel, .sentinel, .sentinel, .sentinel, .sentinel, .sentinel, .sentinel, .sentinel, .sentinel, .sentinel, .sentinel, .sentinel, .sentinel], laidTests := true, laidLooks := .later }
def FloSaysCardSaid : Prop := Claim7.holds Tryd.pinned (.plain (OpenSpec.ofChange floSaysSpec)) floSaysCard

/-- THE TIED CARD OF 'gristmilllaw11.ObsFloats'. -/
def obsFloatsCard : Claim7 := { stood := { row := obsFloatsRow, standIns := [], harness := (true, "2dfd24a99449962994f58e9815aaed81acd26982caa37637cc6faa2881f7db63"), looks := true }, kinds := [], alts := [], laidByText := true, laidKinds := [.data, .data, .data, .sentinel, .sentinel, .sentinel, .sentinel], laidTests := true, laidLooks := .later }
def ObsFloatsCardSaid : Prop := Claim7.holds Tryd.pinned (.plain (OpenSpec.ofChange obsFloatsSpec)) obsFloatsCard

/-- THE SECOND FORM's CARD OF 'gristmilllaw1.FloSays'. -/
def floSaysUptoCard : Claim7 := { stood := { row := floSaysUptoRow, standIns := [], harness := (true, "2dfd24a99449962994f58e9815aaed81acd26982caa37637cc6faa2881f7db63"), looks := true }, kinds := [], alts := [], laidByText := true, laidKinds := [.data, .data, .data, .sentinel, .sentinel, .sentinel, .sentinel, .sentinel, .sentinel, .sentinel, .sentinel, .sentinel, .sentinel, .sentinel, .sentinel, .sentinel, .sentinel, .sentinel, .sentinel, .sentinel, .sentinel, .sentinel, .sentinel], laidTests := true, laidLooks := .later }
def FloSaysUptoCardSaid : Prop := Claim7.holds Tryd.pinned (.plain (OpenSpec.upto floSaysSpec)) floSaysUptoCard

/-- THE SECOND FORM's CARD OF 'gristmilllaw11.ObsFloats'. -/
def obsFloatsUptoCard : Claim7 := { stood := { row := obsFloatsUptoRow, standIns := [], harness := (true, "2dfd24a99449962994f58e9815aaed81acd26982caa37637cc6faa2881f7db63"), looks := true }, kinds := [], alts := [], laidByText := true, laidKinds := [.data, .data, .data, .sentinel, .sentinel, .sentinel, .sentinel], laidTests := true, laidLooks := .later }
def ObsFloatsUptoCardSaid : Prop := Claim7.holds Tryd.pinned (.plain (OpenSpec.upto obsFloatsSpec)) obsFloatsUptoCard
end Rows
end Go.Proofs.YtnggflfjmgbncaaDoor
