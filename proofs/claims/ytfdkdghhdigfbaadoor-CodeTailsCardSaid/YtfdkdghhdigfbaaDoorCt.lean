/- Bytes copied, compared; a number below a bound; how many instructions: walked. -/
import Derived.Test.YtfdkdghhdigfbaaDoorCs
import Derived.OwnWalk
namespace Go.Proofs.YtfdkdghhdigfbaaDoor
open Go Go.RowKit
set_option maxRecDepth 100000

def numsL (l : List UInt8) : List Int := l.map fun b => (b.toNat : Int)
theorem numsL_length (l : List UInt8) : (numsL l).length = l.length := List.length_map ..

theorem own_arg {w : World} {C : Nat} {v : Value} {l : List UInt8} (h : w.ownsRow C 5 1 v l.length (bCells (numsL l))) : ArgB w.heap.size w v l := by
  rcases row_cell h with ⟨h0, rfl⟩ | ⟨g, cap, rfl, hc, _, hg, h1⟩
  · exact ⟨none, 0, by rw [h0], by omega, fun hn => absurd (List.length_eq_zero_iff.1 h0) hn⟩
  · refine ⟨_, cap, rfl, hc, fun _ => ⟨g, 0, rfl, hg, fun j hj => ?_⟩⟩
    rw [Nat.zero_add, h1 j (by omega)]
    unfold bCells numsL
    rw [List.getElem?_map, List.getElem?_map, List.getElem?_eq_getElem hj]
    rfl
theorem ArgB.more {B B' : Nat} {w : World} {v : Value} {l : List UInt8} (h : ArgB B w v l) (hB : B ≤ B') : ArgB B' w v l := by
  obtain ⟨ao, cap, h1, h2, h3⟩ := h
  refine ⟨ao, cap, h1, h2, fun hn => ?_⟩
  obtain ⟨g, o, e, hg, h4⟩ := h3 hn
  exact ⟨g, o, e, Nat.lt_of_lt_of_le hg hB, h4⟩

theorem size_call (D : CodeD) (w : World) (C bc : Nat) (vt vf vi : Value) (hc : Cells w C bc D vt vf vi) : Calls Tryd.prog 11 #[.pointer (some ⟨bc, 0, none⟩)] w fun e w' => e = .returned (.int .i64 (D.ins.length : Int)) ∧ w' = w := by
  obtain ⟨iao, icap, rfl, _, _⟩ := hc.ins'
  have q2 := hc.c2
  clear hc
  go_enter Tryd.func11, Tryd.ntmps11
  go_wp2
  go_ret
  exact ⟨rfl, rfl⟩

theorem first_call (w : World) (hE : Env w) : Calls Tryd.prog 5 #[] w fun e w' => e = .returned (.bool true) ∧ Below w.heap.size w w' := by
  have hr := read_call [] (by decide) (.slice none 0 0) w hE ⟨none, 0, rfl, Nat.le_refl _, fun h => absurd rfl h⟩
  replace hr := Veil.mk hr
  go_enter Tryd.func5, Tryd.ntmps5
  go_wp2_with fail
  go_at_call 6
  refine hr.out.mono ?_
  rintro e w1 ⟨hb, te, pe, rfl⟩
  go_wp2
  go_ret
  exact ⟨rfl, hb⟩

set_option maxHeartbeats 4000000 in
theorem refBytes_call (l : List UInt8) (hl : l.length ≤ 3000) (v : Value) (w : World) (ha : ArgB w.heap.size w v l) : Calls Tryd.prog 8 #[v] w fun e w' => ∃ v', e = .returned v' ∧ w'.ownsRow w.heap.size 5 1 v' l.length (bCells (numsL l)) ∧ Below w.heap.size w w' := by
  obtain ⟨ao, cap, rfl, hcap, hcell⟩ := ha
  replace hcell := Veil.mk hcell
  obtain ⟨C, hC⟩ : ∃ C, w.heap.size = C := ⟨_, rfl⟩
  rw [hC] at hcell ⊢
  obtain ⟨iB, hiB, hzB, hsB, hbB⟩ := info_parts infoB
  go_enter Tryd.func8, Tryd.ntmps8
  go_wp2_with (refine wpList_make_own _ rfl _ _ 22 rfl C 5 iB (.int .u8 0) 1 Tryd.underlying22 hiB hzB hsB .i64 .i64 (l.length : Int) l.length rfl rfl rfl (by rw [hbB]; omega) (by unfold maxLen; omega) (by omega) ?_)
  intro w1 hown hgrow
  have hB1 : Below C w w1 := (Below.refl C w).grown hgrow (by omega) (fun _ h => by cases h)
  clear hgrow
  go_wp2_with fail
  go_loopw [3, 4] (fun vb vi wr => ∃ j : Nat, vi = .int .i64 (j : Int) ∧ j ≤ l.length ∧ wr.ownsRow C 5 1 vb j (bCells (numsL (l.take j))) ∧ Below C w wr) (fun _ vi _ => 10000 - (RowKit.intOf vi).toNat)
  case atStart => exact ⟨0, rfl, Nat.zero_le _, hown, hB1⟩
  case round =>
    obtain ⟨j, rfl, hj, hown, hbr⟩ := hrel
    clear hB1
    by_cases hx : j < l.length
    · obtain ⟨g, o, rfl, hg, h4⟩ := hcell.out (by rintro rfl; exact absurd hx (Nat.not_lt_zero _))
      have e0 := h4 j hx
      rw [← hbr.cell (p := ⟨g, _, none⟩) (show g < C by omega)] at e0
      have hnext : Veil (bCells (numsL (l.take (j + 1))) = bCells (numsL (l.take j)) ++ [.int .u8 (l[j].toNat : Int)]) := ⟨by
        unfold bCells numsL
        rw [List.take_succ_eq_append_getElem hx, List.map_append, List.map_append]
        rfl⟩
      have hx0 : (0 : Int) ≤ (l[j].toNat : Int) := by omega
      generalize (l[j].toNat : Int) = x at e0 hnext hx0
      have hj0 : (0 : Int) ≤ (j : Int) := by omega
      have hj1 : (j : Int) < (l.length : Int) := by omega
      have hsz := hbr.size
      clear h4
      go_wp2_with (at_builtin; refine wpList_append_own _ rfl _ _ 22 rfl C 5 iB (.int .u8 0) 1 1 Tryd.underlying22 hiB hzB hsB hbB rfl (by decide) _ _ _ rfl (hown.alloc _) ⟨wr.heap.size, 0, none⟩ 1 1 [.int .u8 x] rfl rfl ?c1 ?c2 ?c3 ?c4 ?c5 ?_)
      case c1 => exact World.news_of_block (cs := #[.int .u8 x]) (t := 5) (fr := (0, 0)) (heap_alloc_new wr _)
      case c2 => first | (simp [Value.oneCell']; done) | (intro u hu; simp at hu; subst hu; rfl)
      case c3 => unfold maxLen; omega
      case c4 => omega
      case c5 => first | omega | (simp; omega)
      intro v' w2 hown' hgrow _
      have hB2 : Below C w w2 := (hbr.alloc (by omega) _).grown hgrow (by simp; omega) (fun k hk => (hown.lt k hk).1)
      go_wp2_with fail
      exact ⟨⟨j + 1, by simp, by omega, by rw [hnext.out]; exact hown', hB2⟩, by simp [RowKit.intOf]; omega⟩
    · have hj2 : j = l.length := by omega
      have hj3 : ¬ (j : Int) < (l.length : Int) := by omega
      subst hj2
      rw [List.take_length] at hown
      go_wp2
      go_ret
      exact ⟨_, rfl, hown, hbr⟩

set_option maxHeartbeats 4000000 in
theorem same_call (l : List UInt8) (hl : l.length ≤ 3000) (v1 v2 : Value) (w : World) (ha : ArgB w.heap.size w v1 l) (hb : ArgB w.heap.size w v2 l) : Calls Tryd.prog 9 #[v1, v2] w fun e w' => e = .returned (.bool true) ∧ Below w.heap.size w w' := by
  obtain ⟨ao, acap, rfl, hac, hacell⟩ := ha
  obtain ⟨bo, bcap, rfl, hbc, hbcell⟩ := hb
  replace hacell := Veil.mk hacell
  replace hbcell := Veil.mk hbcell
  have hB0 := Below.refl w.heap.size w
  go_enter Tryd.func9, Tryd.ntmps9
  go_wp2_with fail
  go_loopw [5, 6] (fun vi _ wr => ∃ j : Nat, vi = .int .i64 (j : Int) ∧ j ≤ l.length ∧ Below w.heap.size w wr) (fun vi _ _ => 10000 - (RowKit.intOf vi).toNat)
  case atStart => exact ⟨0, rfl, Nat.zero_le _, hB0⟩
  case round =>
    obtain ⟨j, rfl, hj, hbr⟩ := hrel
    clear hB0
    by_cases hx : j < l.length
    · obtain ⟨g, o, rfl, hg, h4⟩ := hacell.out (by rintro rfl; exact absurd hx (Nat.not_lt_zero _))
      obtain ⟨g2, o2, rfl, hg2, h5⟩ := hbcell.out (by rintro rfl; exact absurd hx (Nat.not_lt_zero _))
      have e0 := h4 j hx
      have e1 := h5 j hx
      rw [← hbr.cell (p := ⟨g, _, none⟩) hg] at e0
      rw [← hbr.cell (p := ⟨g2, _, none⟩) hg2] at e1
      generalize (l[j].toNat : Int) = x at e0 e1
      have hj0 : (0 : Int) ≤ (j : Int) := by omega
      have hj1 : (j : Int) < (l.length : Int) := by omega
      clear h4 h5
      go_wp2_with fail
      go_quiet (fail)
      go_wp2_with fail
      exact ⟨⟨j + 1, by simp, by omega, below_drewN hbr _⟩, by simp [RowKit.intOf]; omega⟩
    · have hj2 : j = l.length := by omega
      have hj3 : ¬ (j : Int) < (l.length : Int) := by omega
      go_wp2
      go_ret
      exact ⟨rfl, hbr⟩
end Go.Proofs.YtfdkdghhdigfbaaDoor
