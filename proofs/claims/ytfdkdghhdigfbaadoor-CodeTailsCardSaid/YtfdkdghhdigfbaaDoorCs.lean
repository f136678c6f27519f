/- A code is read: walked. -/
import Derived.Test.YtfdkdghhdigfbaaDoorCp
import Derived.Test.YtfdkdghhdigfbaaDoorCr
namespace Go.Proofs.YtfdkdghhdigfbaaDoor
open Go Go.RowKit
set_option maxRecDepth 100000

/-- Bytes, as an argument. -/
def ArgB (B : Nat) (w : World) (v : Value) (l : List UInt8) : Prop :=
  ∃ ao cap, v = .slice ao l.length cap ∧ l.length ≤ cap ∧ (l ≠ [] → ∃ g o, ao = some ⟨g, o, none⟩ ∧ g < B ∧ ∀ j (h : j < l.length), w.cell? ⟨g, o + j, none⟩ = some (.int .u8 (l[j].toNat : Int)))
theorem ArgB.keep {B : Nat} {w w' : World} {v : Value} {l : List UInt8} (h : ArgB B w v l) (hs : ∀ k, k < B → w'.heap[k]? = w.heap[k]?) : ArgB B w' v l := by
  obtain ⟨ao, cap, h1, h2, h3⟩ := h
  refine ⟨ao, cap, h1, h2, fun hn => ?_⟩
  obtain ⟨g, o, e, hg, h4⟩ := h3 hn
  exact ⟨g, o, e, hg, fun j hj => (cell_hold hs hg).trans (h4 j hj)⟩
theorem ArgB.bytes {B : Nat} {w : World} {ao : Option Addr} {n cap : Nat} {l : List UInt8} (h : ArgB B w (.slice ao n cap) l) : n = l.length ∧ Lib.BytesIn w ao n (l.map fun b => (b.toNat : Int)) := by
  obtain ⟨ao', cap', h1, h2, h3⟩ := h
  cases h1
  refine ⟨rfl, fun hn => ?_⟩
  obtain ⟨g, o, e, _, h4⟩ := h3 (by rintro rfl; exact absurd hn (Nat.lt_irrefl 0))
  refine ⟨g, o, e, fun i hi => (h4 i hi).trans ?_⟩
  rw [List.getD_eq_getElem?_getD, List.getElem?_map, List.getElem?_eq_getElem hi]
  rfl

/-- The code of bytes. -/
def readF : List UInt8 → Option CodeD
  | [] => none
  | c :: r => if (c.toNat : Int) = 71 then
      (match (allS (some r)).2 with
      | some [] => if rightF (allS (some r)).1 && (Lib.bytesOf (bytesF (allS (some r)).1) == c :: r) then some (allS (some r)).1 else none
      | _ => none) else none

theorem readF_cons (c : UInt8) (r : List UInt8) : readF (c :: r) = if (c.toNat : Int) = 71 then (match (allS (some r)).2 with | some [] => if rightF (allS (some r)).1 && (Lib.bytesOf (bytesF (allS (some r)).1) == c :: r) then some (allS (some r)).1 else none | _ => none) else none := rfl

def ReadPost (w : World) (o : Option CodeD) (e : Ending) (w' : World) : Prop := Below w.heap.size w w' ∧ (match o with
  | none => ∃ te pe, e = .returned (.tuple #[.pointer none, .iface te pe])
  | some D => ∃ bc vt vf vi, e = .returned (.tuple #[.pointer (some ⟨bc, 0, none⟩), .nilIface]) ∧ Cells w' w'.heap.size bc D vt vf vi ∧ FitD D)

theorem _root_.Go.Lib.bytesOf_numsL' (l : List UInt8) : Lib.bytesOf (l.map fun b => (b.toNat : Int)) = l := by
  unfold Lib.bytesOf
  rw [List.map_map]
  refine (List.map_congr_left fun y _ => ?_).trans (List.map_id l)
  simp [Function.comp]
theorem own_bytes {w : World} {C : Nat} {v : Value} {xs : List Int} (h : w.ownsRow C 5 1 v xs.length (bCells xs)) : ∃ ao cap, v = .slice ao xs.length cap ∧ Lib.BytesIn w ao xs.length xs := by
  rcases row_cell h with ⟨h0, rfl⟩ | ⟨g, cap, rfl, hc, _, hg, h1⟩
  · exact ⟨none, 0, by rw [h0], fun hn => by omega⟩
  · refine ⟨_, cap, rfl, fun _ => ⟨g, 0, rfl, fun i hi => ?_⟩⟩
    rw [Nat.zero_add, h1 i (by omega)]
    unfold bCells
    rw [List.getElem?_map, List.getElem?_eq_getElem hi, List.getD_eq_getElem?_getD, List.getElem?_eq_getElem hi]
    rfl

set_option maxHeartbeats 8000000 in
theorem read_call (l : List UInt8) (hl : l.length ≤ 3000) (v : Value) (w : World) (hE : Env w) (ha : ArgB w.heap.size w v l) : Calls Tryd.prog 6 #[v] w fun e w' => ReadPost w (readF l) e w' := by
  obtain ⟨ao, cap, rfl, hcap, hcell⟩ := ha
  have hB0 := Below.refl w.heap.size w
  obtain ⟨t0, x0, g0⟩ := hE.2 0 (by decide)
  obtain ⟨t1, x1, g1⟩ := hE.2 1 (by decide)
  obtain ⟨t2, x2, g2⟩ := hE.2 2 (by decide)
  have hE3 := hE.1
  go_enter Tryd.func6, Tryd.ntmps6
  cases l with
  | nil =>
    clear hcell
    go_wp2
    go_quiet (fail)
    go_wp2
    go_ret2
    exact ⟨below_drewN hB0 _, _, _, rfl⟩
  | cons c r =>
    obtain ⟨g, o, rfl, hg, hcell⟩ := hcell (by simp)
    have e0 := hcell 0 (by simp)
    have hl1 : r.length + 1 ≤ 3000 := hl
    have hcap1 : r.length + 1 ≤ cap := hcap
    have hc0 : (0 : Int) ≤ (c.toNat : Int) := by omega
    have hrl : ((r.length + 1 : Nat) : Int) = (r.length : Int) + 1 := by simp
    rw [Nat.add_zero] at e0
    have e0' : w.cell? ⟨g, o, none⟩ = some (.int .u8 (c.toNat : Int)) := e0
    clear e0
    replace hcell := Veil.mk hcell
    by_cases hm : (c.toNat : Int) = 71
    · have hm' : ((c.toNat : Int) != 71) = false := by simpa using hm
      have hrF : Veil (readF (c :: r) = (match (allS (some r)).2 with | some [] => if rightF (allS (some r)).1 && (Lib.bytesOf (bytesF (allS (some r)).1) == c :: r) then some (allS (some r)).1 else none | _ => none)) := ⟨by rw [readF_cons, if_pos hm]⟩
      obtain ⟨F, hF0⟩ : ∃ F, readF (c :: r) = F := ⟨_, rfl⟩
      rw [hF0] at hrF ⊢
      have harg : Veil (ArgB w.heap.size w (.slice (some ⟨g, o, none⟩) (c :: r).length cap) (c :: r)) := ⟨⟨_, cap, rfl, hcap, fun _ => ⟨g, o, rfl, hg, hcell.out⟩⟩⟩
      clear hF0
      obtain ⟨br, hbr⟩ : ∃ b, w.heap.size = b := ⟨_, rfl⟩
      go_upto_region 5 with fail
      go_cut [4] from 15 to 19 (fun p wr => p = .pointer (some ⟨br, 0, none⟩) ∧ ∃ sl, wr = w.alloc (Obj.cells #[sl, .nilIface] 38) ∧ BsAt (br + 1) wr br sl r)
      case first =>
        have hbs : ∀ sl, _ := fun sl => BsAt.tail (B := br + 1) (w := w.alloc (Obj.cells #[sl, .nilIface] 38)) (br := br) (g := g) (o := o) (cap := cap) (c := c) (r := r) hcap1 (by omega) (by omega) fun j h => (cell_old hg).trans (hcell.out j h)
        replace hbs := Veil.mk hbs
        clear hm hm'
        by_cases hcp : cap = 1
        · have hr0 : r.length = 0 := by omega
          have hr1 : r = [] := List.length_eq_zero_iff.1 hr0
          subst hr1
          subst hcp
          go_wp2
          go_meet
          case rel => exact ⟨rfl, _, rfl, (hbs.out _).1 (by first | trivial | rfl)⟩
        · have hcp1 : 1 < cap := by omega
          go_wp2
          go_meet
          case rel => exact ⟨rfl, _, rfl, (hbs.out _).2 hcp1⟩
      case rest =>
        obtain ⟨rfl, sl, rfl, hbs⟩ := hcut
        have hB1 : Below br w (w.alloc (Obj.cells #[sl, .nilIface] 38)) := (Below.refl _ w).alloc (Nat.le_of_eq hbr.symm) _
        have hz1 : (w.alloc (Obj.cells #[sl, .nilIface] 38)).heap.size = br + 1 := by simp [hbr]
        have hnw := heap_alloc_new w (Obj.cells #[sl, .nilIface] 38)
        rw [hbr] at hnw
        have hA : At (br + 1) (w.alloc (Obj.cells #[sl, .nilIface] 38)) br (some r) := by
          refine ⟨⟨by omega, fun g hg => ?_⟩, by omega, Nat.lt_succ_self _, by omega, ⟨sl, .nilIface, hnw, .inl ⟨r, rfl, rfl, hbs⟩⟩, fun l h => by cases h; omega⟩
          obtain ⟨te, pe, h⟩ := hE.2 g hg
          exact ⟨te, pe, (cell_old (by omega)).trans h⟩
        generalize w.alloc (Obj.cells #[sl, .nilIface] 38) = w1 at hB1 hz1 hA ⊢
        clear hbs hnw hcell hm hm' e0'
        go_wp2_with fail
        go_at_call 12
        refine (all_call (some r) br w1 hA).mono ?_
        rintro e w2 ⟨vt, vf, vi, rfl, hG, ht, hf, hi⟩
        rw [hz1] at hG ht hf hi ⊢
        have hB2 : Below br w w2 := ⟨hG.stir.os.trans hB1.os, hG.stir.tape.trans hB1.tape, hG.stir.output.trans hB1.output, Nat.le_trans hB1.size hG.stir.size, fun k hk => (hG.stir.block k (by omega) (by omega)).trans (hB1.block k hk)⟩
        have hz2 := hG.stir.size
        obtain ⟨v, er, hb, hx⟩ := hG.at'.rd
        obtain ⟨c0, c1, _⟩ := rd_cells hb
        have hc : Cells w2 w2.heap.size (br + 1) (allS (some r)).1 vt vf vi := (CodeAt.mk hG.c ht hf hi).cells
        have hfit := all_par.fit r
        generalize hall : allS (some r) = p at hrF hc hx hfit hG
        clear hG ht hf hi hb hA
        obtain ⟨D, st⟩ := p
        dsimp only at hrF hc hx hfit
        have hvars : ∀ w', Below br w w' → w'.cell? ⟨1, 0, none⟩ = some (.iface t1 x1) ∧ w'.cell? ⟨2, 0, none⟩ = some (.iface t2 x2) := fun w' h => ⟨(h.cell (p := ⟨1, 0, none⟩) (show 1 < br by omega)).trans g1, (h.cell (p := ⟨2, 0, none⟩) (show 2 < br by omega)).trans g2⟩
        replace hvars := Veil.mk hvars
        obtain ⟨g1', g2'⟩ := hvars.out w2 hB2
        clear hall
        rcases hx with ⟨l2, rfl, rfl, hbs2⟩ | ⟨rfl, ⟨te, pe, rfl⟩, _⟩
        · obtain ⟨gr, orr, cr, rfl, hcr, _, _, _⟩ := hbs2
          cases l2 with
          | cons x s2 =>
            have hx1 : (0 : Int) < ((s2.length : Int) + 1) := by omega
            go_wp2
            go_quiet (fail)
            go_wp2
            go_ret2
            refine ⟨by rw [hbr]; exact below_drewN hB2 _, ?_⟩
            rw [hrF.out]
            exact ⟨_, _, rfl⟩
          | nil =>
            have hFD : FitD D := hfit [] (by omega) rfl
            have hcall := right_call D hFD w2 w2.heap.size (br + 1) vt vf vi hc (Nat.le_refl _)
            obtain ⟨rb, hrb⟩ : ∃ b, rightF D = b := ⟨_, rfl⟩
            rw [hrb] at hcall
            replace hcall := Veil.mk hcall
            replace hc := Veil.mk hc
            replace hFD := Veil.mk hFD
            replace hrb := Veil.mk hrb
            clear hfit
            go_wp2_with fail
            go_at_call 13
            refine hcall.out.mono ?_
            rintro e w3 ⟨rfl, hb3⟩
            have hB3 := hB2.trans (hb3.mono (show br ≤ w2.heap.size by omega))
            obtain ⟨g1'', g2''⟩ := hvars.out w3 hB3
            have hz3 := hb3.size
            have hc3 : Veil (Cells w3 w3.heap.size (br + 1) D vt vf vi) := ⟨(hc.out.keep fun k hk => hb3.block k hk).more hz3⟩
            cases rb with
            | false =>
              go_wp2
              go_quiet (fail)
              go_wp2
              go_ret2
              refine ⟨by rw [hbr]; exact below_drewN hB3 _, ?_⟩
              rw [hrF.out]
              dsimp only
              rw [hrb.out]
              exact ⟨_, _, rfl⟩
            | true =>
              go_wp2_with fail
              go_at_call 10
              refine (bytes_call D hFD.out w3 (br + 1) vt vf vi hc3.out (bytesF_len D hFD.out)).mono ?_
              rintro e w4 ⟨vb, rfl, hown, hP⟩
              have hB4 : Below br w w4 := ⟨hP.os.trans hB3.os, hP.tape.trans hB3.tape, hP.output.trans hB3.output, Nat.le_trans hB3.size hP.size, fun k hk => (hP.block k (by omega) (.inl (by omega))).trans (hB3.block k hk)⟩
              have hc4 : Veil (Cells w4 w4.heap.size (br + 1) D vt vf vi) := ⟨(hc3.out.keep fun k hk => hP.block k hk (.inl hk)).more hP.size⟩
              obtain ⟨a1, b1⟩ := hvars.out w4 hB4
              obtain ⟨bo, bcap, rfl, hbi⟩ := own_bytes hown
              have hab := (harg.out.keep (w' := w4) fun k hk => hB4.block k (by omega)).bytes
              have heq := Tryd.bytes_Equal_all bo (some ⟨g, o, none⟩) (bytesF D).length bcap (c :: r).length cap (bytesF D) _ w4 rfl (by simp) hbi hab.2
              rw [show Lib.bytesOf ((c :: r).map fun b => (b.toNat : Int)) = c :: r from Lib.bytesOf_numsL' (c :: r)] at heq
              obtain ⟨eb, heb⟩ : ∃ b, (Lib.bytesOf (bytesF D) == c :: r) = b := ⟨_, rfl⟩
              rw [heb] at heq
              replace heq := Veil.mk heq
              replace heb := Veil.mk heb
              clear hown hbi hab
              cases eb with
              | false =>
                go_wp2_with (go_at_call 14; refine heq.out.mono ?_; rintro e w5 ⟨rfl, rfl⟩)
                go_quiet (fail)
                go_wp2
                go_ret2
                refine ⟨by rw [hbr]; exact below_drewN hB4 _, ?_⟩
                rw [hrF.out]
                dsimp only
                rw [hrb.out, heb.out]
                exact ⟨_, _, rfl⟩
              | true =>
                go_wp2_with (go_at_call 14; refine heq.out.mono ?_; rintro e w5 ⟨rfl, rfl⟩)
                go_ret2
                refine ⟨by rw [hbr]; exact hB4, ?_⟩
                rw [hrF.out]
                dsimp only
                rw [hrb.out, heb.out]
                exact ⟨br + 1, vt, vf, vi, rfl, hc4.out, hFD.out⟩
        · go_wp2
          go_quiet (fail)
          go_wp2
          go_ret2
          refine ⟨by rw [hbr]; exact below_drewN hB2 _, ?_⟩
          rw [hrF.out]
          exact ⟨_, _, rfl⟩
    · have hm' : ((c.toNat : Int) != 71) = true := by simpa using hm
      have hr : readF (c :: r) = none := by rw [readF_cons, if_neg hm]
      replace hr := Veil.mk hr
      generalize (c.toNat : Int) = cn at e0' hc0 hm hm'
      go_wp2
      go_quiet (fail)
      go_wp2
      go_ret2
      refine ⟨below_drewN hB0 _, ?_⟩
      rw [hr.out]
      exact ⟨_, _, rfl⟩
end Go.Proofs.YtfdkdghhdigfbaaDoor
