/- The law CodeReads, walked. -/
import Derived.Test.YtfdkdghhdigfbaaDoorCt
namespace Go.Proofs.YtfdkdghhdigfbaaDoor
open Go Go.RowKit
set_option maxRecDepth 100000

theorem Env.below {w w' : World} {B : Nat} (h : Env w) (hB : 3 ≤ B) (hb : Below B w w') : Env w' :=
  ⟨Nat.le_trans h.1 hb.size, fun g hg => by
    obtain ⟨te, pe, hc⟩ := h.2 g hg
    exact ⟨te, pe, (hb.cell (p := ⟨g, 0, none⟩) (show g < B by omega)).trans hc⟩⟩

theorem readF_bytes {l : List UInt8} {D : CodeD} (h : readF l = some D) : bytesF D = numsL l ∧ 1 ≤ D.ins.length := by
  cases l with
  | nil => cases h
  | cons c r =>
    rw [readF_cons] at h
    split at h
    · split at h
      · split at h
        · rename_i hc
          cases h
          simp only [Bool.and_eq_true, beq_iff_eq] at hc
          refine ⟨bytes_eq (bytesF_bytes _) hc.2, ?_⟩
          have h1 := hc.1
          unfold rightF headBad at h1
          apply Nat.pos_of_ne_zero
          intro h0
          rw [h0] at h1
          simp at h1
        · cases h
      · cases h
    · cases h

set_option maxHeartbeats 8000000 in
theorem reads_walk (l : List UInt8) (v : Value) (w : World) (hE : Env w) (ha : ArgB w.heap.size w v l) : Calls Tryd.prog 4 #[v] w fun e w' => e = .returned (.bool true) ∧ Below w.heap.size w w' := by
  have ha0 := ha
  obtain ⟨ao, cap, rfl, hcap, _⟩ := ha
  obtain ⟨B, hB⟩ : ∃ B, w.heap.size = B := ⟨_, rfl⟩
  have hE3 := hE.1
  have hfirst := first_call w hE
  rw [hB] at hE3 hfirst ha0 ⊢
  replace hfirst := Veil.mk hfirst
  replace ha0 := Veil.mk ha0
  replace hE := Veil.mk hE
  go_enter Tryd.func4, Tryd.ntmps4
  go_wp2_with fail
  go_at_call 5
  refine hfirst.out.mono ?_
  rintro e w1 ⟨rfl, hB1⟩
  have hz1 := hB1.size
  rw [hB] at hz1
  by_cases hl : (2000 : Int) < (l.length : Int)
  · go_wp2
    go_ret
    exact ⟨rfl, hB1⟩
  have hl2 : l.length ≤ 3000 := by omega
  have ha1 := ha0.out.keep (w' := w1) fun k hk => hB1.block k hk
  have hr1 := Veil.mk (read_call l hl2 _ w1 (hE.out.below hE3 hB1) (ha1.more hz1))
  go_wp2_with fail
  go_at_call 6
  refine hr1.out.mono ?_
  rintro e w2 ⟨hb2, hpost⟩
  have hB2 : Below B w w2 := hB1.trans (hb2.mono hz1)
  have hz2 := hb2.size
  have ha2 := ha0.out.keep (w' := w2) fun k hk => hB2.block k hk
  have hcp := Veil.mk (refBytes_call l hl2 _ w2 (ha2.more (Nat.le_trans hz1 hz2)))
  cases hrf : readF l with
  | none =>
    rw [hrf] at hpost
    obtain ⟨te, pe, rfl⟩ := hpost
    replace hrf := Veil.mk hrf
    go_wp2_with fail
    go_at_call 8
    refine hcp.out.mono ?_
    rintro e w3 ⟨v3, rfl, hown, hb3⟩
    have hB3 : Below B w w3 := hB2.trans (hb3.mono (Nat.le_trans hz1 hz2))
    have hr3 := Veil.mk (read_call l hl2 v3 w3 (hE.out.below hE3 hB3) (own_arg hown))
    have hz3 := hb3.size
    clear hown
    go_wp2_with fail
    go_at_call 6
    refine hr3.out.mono ?_
    rintro e w4 ⟨hb4, hpost4⟩
    have hB4 : Below B w w4 := hB3.trans (hb4.mono (by omega))
    rw [hrf.out] at hpost4
    obtain ⟨te4, pe4, rfl⟩ := hpost4
    go_wp2
    go_ret
    exact ⟨rfl, hB4⟩
  | some D =>
    rw [hrf] at hpost
    obtain ⟨bc, vt, vf, vi, rfl, hc, hF⟩ := hpost
    obtain ⟨hby, hin⟩ := readF_bytes hrf
    replace hrf := Veil.mk hrf
    replace hby := Veil.mk hby
    replace hc := Veil.mk hc
    replace hF := Veil.mk hF
    go_wp2_with fail
    go_at_call 8
    refine hcp.out.mono ?_
    rintro e w3 ⟨v3, rfl, hown, hb3⟩
    have hB3 : Below B w w3 := hB2.trans (hb3.mono (Nat.le_trans hz1 hz2))
    have hr3 := Veil.mk (read_call l hl2 v3 w3 (hE.out.below hE3 hB3) (own_arg hown))
    have hz3 := hb3.size
    clear hown
    go_wp2_with fail
    go_at_call 6
    refine hr3.out.mono ?_
    rintro e w4 ⟨hb4, hpost4⟩
    have hB4 : Below B w w4 := hB3.trans (hb4.mono (by omega))
    have hz4 := hb4.size
    rw [hrf.out] at hpost4
    obtain ⟨bd, ut, uf, ui, rfl, hd, _⟩ := hpost4
    have hc4 : Veil (Cells w4 w4.heap.size bc D vt vf vi) := ⟨(hc.out.keep fun k hk => (hb4.block k (by omega)).trans (hb3.block k hk)).more (by omega)⟩
    replace hd := Veil.mk hd
    have hby4 := Veil.mk (bytes_call D hF.out w4 bc vt vf vi hc4.out (bytesF_len D hF.out))
    go_wp2_with fail
    go_at_call 10
    refine hby4.out.mono ?_
    rintro e w5 ⟨v5, rfl, hown5, hP5⟩
    have hbb5 : Below w4.heap.size w4 w5 := ⟨hP5.os, hP5.tape, hP5.output, hP5.size, fun k hk => hP5.block k hk (.inl hk)⟩
    have hB5 : Below B w w5 := hB4.trans (hbb5.mono (by omega))
    have hz5 := hbb5.size
    rw [hby.out, numsL_length] at hown5
    have hs5 := Veil.mk (same_call l hl2 v5 _ w5 (own_arg hown5) ((ha0.out.keep (w' := w5) fun k hk => hB5.block k hk).more (by omega)))
    clear hown5
    go_wp2_with fail
    go_at_call 9
    refine hs5.out.mono ?_
    rintro e w6 ⟨rfl, hb6⟩
    have hB6 : Below B w w6 := hB5.trans (hb6.mono (by omega))
    have hz6 := hb6.size
    have hd6 : Veil (Cells w6 w6.heap.size bd D ut uf ui) := ⟨(hd.out.keep fun k hk => (hb6.block k (by omega)).trans (hbb5.block k hk)).more (by omega)⟩
    have hc6 : Veil (Cells w6 w6.heap.size bc D vt vf vi) := ⟨(hc4.out.keep fun k hk => (hb6.block k (by omega)).trans (hbb5.block k hk)).more (by omega)⟩
    have hby6 := Veil.mk (bytes_call D hF.out w6 bd ut uf ui hd6.out (bytesF_len D hF.out))
    go_wp2_with fail
    go_at_call 10
    refine hby6.out.mono ?_
    rintro e w7 ⟨v7, rfl, hown7, hP7⟩
    have hbb7 : Below w6.heap.size w6 w7 := ⟨hP7.os, hP7.tape, hP7.output, hP7.size, fun k hk => hP7.block k hk (.inl hk)⟩
    have hB7 : Below B w w7 := hB6.trans (hbb7.mono (by omega))
    have hz7 := hbb7.size
    rw [hby.out, numsL_length] at hown7
    have hs7 := Veil.mk (same_call l hl2 v7 _ w7 (own_arg hown7) ((ha0.out.keep (w' := w7) fun k hk => hB7.block k hk).more (by omega)))
    clear hown7
    go_wp2_with fail
    go_at_call 9
    refine hs7.out.mono ?_
    rintro e w8 ⟨rfl, hb8⟩
    have hB8 : Below B w w8 := hB7.trans (hb8.mono (by omega))
    have hc8 : Cells w8 w6.heap.size bc D vt vf vi := hc6.out.keep fun k hk => (hb8.block k (by omega)).trans (hbb7.block k hk)
    have hd8 : Cells w8 w6.heap.size bd D ut uf ui := hd6.out.keep fun k hk => (hb8.block k (by omega)).trans (hbb7.block k hk)
    have hsc := Veil.mk (size_call D w8 _ bc vt vf vi hc8)
    have hsd := Veil.mk (size_call D w8 _ bd ut uf ui hd8)
    clear hc8 hd8
    have hin' : (1 : Int) ≤ (D.ins.length : Int) := by omega
    go_wp2_with fail
    go_at_call 11
    refine hsc.out.mono ?_
    rintro e w9 ⟨rfl, rfl⟩
    go_wp2_with fail
    go_at_call 11
    refine hsc.out.mono ?_
    rintro e w9 ⟨rfl, rfl⟩
    go_wp2_with fail
    go_at_call 11
    refine hsd.out.mono ?_
    rintro e w9 ⟨rfl, rfl⟩
    go_wp2
    go_ret
    exact ⟨by simp, hB8⟩
end Go.Proofs.YtfdkdghhdigfbaaDoor
