/-
  DERIVED. GIVEN WITH THE SEED: THE CARDS: each row of YtomjoiaahalahaaDoorRows.lean that lists a variable, with what it lists TIED to the program's text (the seventh form; the later family's looks); each row that meets fmt, with fmt's text TOLD by the authors' own Lean function (tested against real Go, not proved from fmt's source: count such statements apart). THE CARD IS WHAT COUNTS. Prove the row's statement (the work); the ties are given (YtomjoiaahalahaaDoorTie.lean); close each card by the builder's one call (the guide's Derived/Test/ToyasCard.lean, 'card_holds'). Laid BY PROGRAM, IN A SANDBOX (cutbox-door.mjs). By AI agents, Wed Nov 11 2026. No macro, syntax, notation, axiom, sorry.
-/
import Derived.Test.YtomjoiaahalahaaDoorRows
import GoSem.ClaimSeven
namespace Go.Proofs.YtomjoiaahalahaaDoor
namespace Rows

/-- THE TIED CARD OF 'gristmilllaw1.FloZeros'. -/
def floZerosCard : Claim7 := { stood := { row := floZerosRow, standIns := [], harness := (true, "7930ac4bb53b0df66177da587d7bd6b852056b89352aa1b22cb8c60efe498560"), looks := true }, kinds := [], alts := [], laidByText := true, laidKinds := [.data, .data, .data], laidTests := true, laidLooks := .later }
def FloZerosCardSaid : Prop := Claim7.holds Tryd.pinned (.plain (OpenSpec.ofChange floZerosSpec)) floZerosCard

/-- THE TIED CARD OF 'gristmilllaw1.FloWhole'. -/
def floWholeCard : Claim7 := { stood := { row := floWholeRow, standIns := [], harness := (true, "7930ac4bb53b0df66177da587d7bd6b852056b89352aa1b22cb8c60efe498560"), looks := true }, kinds := [], alts := [], laidByText := true, laidKinds := [.data, .data, .data], laidTests := true, laidLooks := .later }
def FloWholeCardSaid : Prop := Claim7.holds Tryd.pinned (.plain (OpenSpec.ofChange floWholeSpec)) floWholeCard

/-- THE TIED CARD OF 'gristmilllaw1.FloOrder'. -/
def floOrderCard : Claim7 := { stood := { row := floOrderRow, standIns := [], harness := (true, "7930ac4bb53b0df66177da587d7bd6b852056b89352aa1b22cb8c60efe498560"), looks := true }, kinds := [], alts := [], laidByText := true, laidKinds := [.data, .data, .data], laidTests := true, laidLooks := .later }
def FloOrderCardSaid : Prop := Claim7.holds Tryd.pinned (.plain (OpenSpec.ofChange floOrderSpec)) floOrderCard

/-- THE TIED CARD OF 'gristmilllaw1.FloEdges'. -/
def floEdgesCard : Claim7 := { stood := { row := floEdgesRow, standIns := [], harness := (true, "7930ac4bb53b0df66177da587d7bd6b852056b89352aa1b22cb8c60efe498560"), looks := true }, kinds := [], alts := [], laidByText := true, laidKinds := [.data, .data, .data], laidTests := true, laidLooks := .later }
def FloEdgesCardSaid : Prop := Claim7.holds Tryd.pinned (.plain (OpenSpec.ofChange floEdgesSpec)) floEdgesCard

/-- THE TIED CARD OF 'gristmilllaw1.FloForms'. -/
def floFormsCard : Claim7 := { stood := { row := floFormsRow, standIns := [], harness := (true, "7930ac4bb53b0df66177da587d7bd6b852056b89352aa1b22cb8c60efe498560"), looks := true }, kinds := [], alts := [], laidByText := true, laidKinds := [.data, .data, .data, .sentinel, .sentinel, .sentinel], laidTests := true, laidLooks := .later }
def FloFormsCardSaid : Prop := Claim7.holds Tryd.pinned (.plain (OpenSpec.ofChange floFormsSpec)) floFormsCard

/-- THE TIED CARD OF 'gristmilllaw1.FloBack'. -/
def floBackCard : Claim7 := { stood := { row := floBackRow, standIns := [], harness := (true, "7930ac4bb53b0df66177da587d7bd6b852056b89352aa1b22cb8c60efe498560"), looks := true }, kinds := [], alts := [], laidByText := true, laidKinds := [.data, .data, .data, .sentinel, .sentinel, .sentinel], laidTests := true, laidLooks := .later }
def FloBackCardSaid : Prop := Claim7.holds Tryd.pinned (.plain (OpenSpec.ofChange floBackSpec)) floBackCard

/-- THE SECOND FORM's CARD OF 'gristmilllaw1.FloZeros'. -/
def floZerosUptoCard : Claim7 := { stood := { row := floZerosUptoRow, standIns := [], harness := (true, "7930ac4bb53b0df66177da587d7bd6b852056b89352aa1b22cb8c60efe498560"), looks := true }, kinds := [], alts := [], laidByText := true, laidKinds := [.data, .data, .data], laidTests := true, laidLooks := .later }
def FloZerosUptoCardSaid : Prop := Claim7.holds Tryd.pinned (.plain (OpenSpec.upto floZerosSpec)) floZerosUptoCard

/-- THE SECOND FORM's CARD OF 'gristmilllaw1.FloWhole'. -/
def floWholeUptoCard : Claim7 := { stood := { row := floWholeUptoRow, standIns := [], harness := (true, "7930ac4bb53b0df66177da587d7bd6b852056b89352aa1b22cb8c60efe498560"), looks := true }, kinds := [], alts := [], laidByText := true, laidKinds := [.data, .data, .data], laidTests := true, laidLooks := .later }
def FloWholeUptoCardSaid : Prop := Claim7.holds Tryd.pinned (.plain (OpenSpec.upto floWholeSpec)) floWholeUptoCard

/-- THE SECOND FORM's CARD OF 'gristmilllaw1.FloOrder'. -/
def floOrderUptoCard : Claim7 := { stood := { row := floOrderUptoRow, standIns := [], harness := (true, "7930ac4bb53b0df66177da587d7bd6b852056b89352aa1b22cb8c60efe498560"), looks := true }, kinds := [], alts := [], laidByText := true, laidKinds := [.data, .data, .data], laidTests := true, laidLooks := .later }
def FloOrderUptoCardSaid : Prop := Claim7.holds Tryd.pinned (.plain (OpenSpec.upto floOrderSpec)) floOrderUptoCard

/-- THE SECOND FORM's CARD OF 'gristmilllaw1.FloEdges'. -/
def floEdgesUptoCard : Claim7 := { stood := { row := floEdgesUptoRow, standIns := [], harness := (true, "7930ac4bb53b0df66177da587d7bd6b852056b89352aa1b22cb8c60efe498560"), looks := true }, kinds := [], alts := [], laidByText := true, laidKinds := [.data, .data, .data], laidTests := true, laidLooks := .later }
def FloEdgesUptoCardSaid : Prop := Claim7.holds Tryd.pinned (.plain (OpenSpec.upto floEdgesSpec)) floEdgesUptoCard

/-- THE SECOND FORM's CARD OF 'gristmilllaw1.FloForms'. -/
def floFormsUptoCard : Claim7 := { stood := { row := floFormsUptoRow, standIns := [], harness := (true, "7930ac4bb53b0df66177da587d7bd6b852056b89352aa1b22cb8c60efe498560"), looks := true }, kinds := [], alts := [], laidByText := true, laidKinds := [.data, .data, .data, .sentinel, .sentinel, .sentinel], laidTests := true, laidLooks := .later }
def FloFormsUptoCardSaid : Prop := Claim7.holds Tryd.pinned (.plain (OpenSpec.upto floFormsSpec)) floFormsUptoCard

/-- THE SECOND FORM's CARD OF 'gristmilllaw1.FloBack'. -/
def floBackUptoCard : Claim7 := { stood := { row := floBackUptoRow, standIns := [], harness := (true, "7930ac4bb53b0df66177da587d7bd6b852056b89352aa1b22cb8c60efe498560"), looks := true }, kinds := [], alts := [], laidByText := true, laidKinds := [.data, .data, .data, .sentinel, .sentinel, .sentinel], laidTests := true, laidLooks := .later }
def FloBackUptoCardSaid : Prop := Claim7.holds Tryd.pinned (.plain (OpenSpec.upto floBackSpec)) floBackUptoCard
end Rows
end Go.Proofs.YtomjoiaahalahaaDoor
