/- The law CodeTails, walked. -/
import Derived.Test.YtfdkdghhdigfbaaDoorCu
import Derived.Laws.AppendOwnNone
namespace Go.Proofs.YtfdkdghhdigfbaaDoor
open Go Go.RowKit
set_option maxRecDepth 100000

theorem readF_more {l m : List UInt8} {D : CodeD} (h : readF l = some D) (hm : m ≠ []) : readF (l ++ m) = none := by
  cases l with
  | nil => cases h
  | cons c r =>
    rw [readF_cons] at h
    rw [List.cons_append, readF_cons]
    split at h
    · rename_i h1
      rw [if_pos h1]
      split at h
      · rename_i h2
        rw [all_par.more r [] m h2]
        cases m with
        | nil => exact absurd rfl hm
        | cons x s => rfl
      · cases h
    · cases h
theorem readF_cut {l : List UInt8} {D : CodeD} (h : readF l = some D) (k : Nat) (hk : k < l.length) : readF (l.take k) = none := by
  cases e : readF (l.take k) with
  | none => rfl
  | some E =>
    have h1 := readF_more e (m := l.drop k) (by
      intro h2
      have := congrArg List.length h2
      simp at this
      omega)
    rw [List.take_append_drop, h] at h1
    cases h1

theorem own_put_arg {w : World} {B : Nat} {ao : Option Addr} {n cap : Nat} {m : List UInt8} (h : ArgB B w (.slice ao n cap) m) : (m = [] ∧ n = 0) ∨ ∃ ad, ao = some ad ∧ ∀ (j : Nat) (u : Value), (bCells (numsL m))[j]? = some u → w.cell? (ad.add j) = some u := by
  obtain ⟨ao', cap', h1, h2, h3⟩ := h
  cases h1
  cases m with
  | nil => exact .inl ⟨rfl, rfl⟩
  | cons c r =>
    obtain ⟨g, o, e, _, h4⟩ := h3 (by simp)
    refine .inr ⟨_, e, fun j u hu => ?_⟩
    have hj' : j < (c :: r).length := by
      obtain ⟨hj, _⟩ := List.getElem?_eq_some_iff.1 hu
      simpa [bCells, numsL] using hj
    unfold bCells numsL at hu
    rw [List.getElem?_map, List.getElem?_map, List.getElem?_eq_getElem hj'] at hu
    cases hu
    have h5 := h4 j hj'
    rw [← Go.WideShapes.add_plain] at h5
    exact h5

set_option maxHeartbeats 8000000 in
theorem tails_walk (l m : List UInt8) (ao mo : Option Addr) (cap mcap : Nat) (cut : Int) (w : World) (hE : Env w) (ha : ArgB w.heap.size w (.slice ao l.length cap) l) (hm : ArgB w.heap.size w (.slice mo m.length mcap) m) (hmn : mo = none → mcap = 0)
    (hnum : ∀ (n k : Int) (w : World), 0 < k → k < 1000000 → Calls Tryd.prog 7 #[.int .i64 n, .int .i64 k] w fun e w' => e = .returned (.int .i64 (n % k)) ∧ w' = w) :
    Calls Tryd.prog 3 #[.slice ao l.length cap, .slice mo m.length mcap, .int .i64 cut] w fun e w' => e = .returned (.bool true) ∧ Below w.heap.size w w' := by
  obtain ⟨B, hB⟩ : ∃ B, w.heap.size = B := ⟨_, rfl⟩
  have hcap : l.length ≤ cap := by obtain ⟨_, _, h1, h2, _⟩ := ha; cases h1; exact h2
  have hE3 := hE.1
  have hfirst := first_call w hE
  rw [hB] at hE3 hfirst ha hm ⊢
  replace hfirst := Veil.mk hfirst
  replace ha := Veil.mk ha
  replace hm := Veil.mk hm
  replace hE := Veil.mk hE
  replace hnum := Veil.mk hnum
  replace hmn := Veil.mk hmn
  go_enter Tryd.func3, Tryd.ntmps3
  go_wp2_with fail
  go_at_call 5
  refine hfirst.out.mono ?_
  rintro e w1 ⟨rfl, hB1⟩
  have hz1 := hB1.size
  rw [hB] at hz1
  by_cases hl : (1000 : Int) < (l.length : Int)
  · go_wp2
    go_ret
    exact ⟨rfl, hB1⟩
  have hl' : decide ((1000 : Int) < (l.length : Int)) = false := by simpa using hl
  by_cases hk : (100 : Int) < (m.length : Int)
  · go_wp2
    go_ret
    exact ⟨rfl, hB1⟩
  have hk' : decide ((100 : Int) < (m.length : Int)) = false := by simpa using hk
  have hl2 : l.length ≤ 3000 := by omega
  have ha1 := ha.out.keep (w' := w1) fun k hk => hB1.block k hk
  have hr1 := Veil.mk (read_call l hl2 _ w1 (hE.out.below hE3 hB1) (ha1.more hz1))
  go_wp2_with fail
  go_at_call 6
  refine hr1.out.mono ?_
  rintro e w2 ⟨hb2, hpost⟩
  have hB2 : Below B w w2 := hB1.trans (hb2.mono hz1)
  have hz2 := hb2.size
  cases hrf : readF l with
  | none =>
    rw [hrf] at hpost
    obtain ⟨te, pe, rfl⟩ := hpost
    go_wp2
    go_ret
    exact ⟨rfl, hB2⟩
  | some D =>
    rw [hrf] at hpost
    obtain ⟨bc, vt, vf, vi, rfl, _, _⟩ := hpost
    have hne : l ≠ [] := by rintro rfl; cases hrf
    have hpos : 0 < l.length := by
      apply Nat.pos_of_ne_zero
      intro h
      exact hne (List.length_eq_zero_iff.1 h)
    have hmod : 0 ≤ cut % (l.length : Int) ∧ cut % (l.length : Int) < (l.length : Int) := ⟨Int.emod_nonneg _ (by omega), Int.emod_lt_of_pos _ (by omega)⟩
    have hcut := hnum.out cut (l.length : Int) w2 (by omega) (by omega)
    obtain ⟨c, hc⟩ := Int.eq_ofNat_of_zero_le hmod.1
    rw [hc] at hcut hmod
    have hcl : c < l.length := by omega
    have hp1 := readF_cut hrf c hcl
    have hpl : (l.take c).length = c := by simp; omega
    have harg2 : ArgB w2.heap.size w2 (.slice ao c cap) (l.take c) := by
      obtain ⟨ao', cap', h1, h2, h3⟩ := (ha.out.keep (w' := w2) fun k hk => hB2.block k hk).more (Nat.le_trans hz1 hz2)
      cases h1
      refine ⟨ao, cap, by rw [hpl], by omega, fun _ => ?_⟩
      obtain ⟨g, o, e, hg, h4⟩ := h3 hne
      refine ⟨g, o, e, hg, fun j hj => ?_⟩
      rw [List.getElem_take]
      exact h4 j (by omega)
    have hr2 := Veil.mk (read_call (l.take c) (by omega) _ w2 (hE.out.below hE3 hB2) harg2)
    replace hcut := Veil.mk hcut
    clear hc hpl harg2 hmod
    have hc0 : (0 : Int) ≤ (c : Int) := by omega
    have hc1 : (c : Int) ≤ (l.length : Int) := by omega
    have hc2 : (c : Int) ≤ (cap : Int) := by omega
    go_wp2_with fail
    go_at_call 7
    refine hcut.out.mono ?_
    rintro e w3 ⟨rfl, hw3⟩
    subst hw3
    go_wp2_with fail
    go_at_call 6
    refine hr2.out.mono ?_
    rintro e w4 ⟨hb4, hpost4⟩
    have hB4 : Below B w w4 := hB2.trans (hb4.mono (Nat.le_trans hz1 hz2))
    have hz4 := hb4.size
    rw [hp1] at hpost4
    obtain ⟨te4, pe4, rfl⟩ := hpost4
    have hcp := Veil.mk (refBytes_call l hl2 _ w4 ((ha.out.keep (w' := w4) fun k hk => hB4.block k hk).more (by omega)))
    clear hr2
    go_wp2_with fail
    go_at_call 8
    refine hcp.out.mono ?_
    rintro e w5 ⟨v5, rfl, hown, hb5⟩
    have hB5 : Below B w w5 := hB4.trans (hb5.mono (by omega))
    have hz5 := hb5.size
    have hm5 := (hm.out.keep (w' := w5) fun k hk => hB5.block k hk)
    obtain ⟨iB, hiB, hzB, hsB, hbB⟩ := info_parts infoB
    have hrm : Veil (m ≠ [] → readF (l ++ m) = none) := ⟨fun h => readF_more hrf h⟩
    replace hrf := Veil.mk hrf
    rcases own_put_arg hm5 with ⟨rfl, hm0⟩ | ⟨ad, rfl, hnews⟩
    · have hr6 := Veil.mk (read_call l hl2 v5 w5 (hE.out.below hE3 hB5) (own_arg hown))
      have hfin : ∀ (K : Prop), K → K := fun _ h => h
      cases mo with
      | none =>
        have hmc := hmn.out rfl
        subst hmc
        clear hfin
        go_wp2_with (refine wpList_append_own_none rfl _ _ 22 rfl w4.heap.size 5 iB 1 Tryd.underlying22 hiB _ _ _ rfl hown rfl ?_)
        go_wp2_with fail
        go_at_call 6
        refine hr6.out.mono ?_
        rintro e w6 ⟨hb6, hpost6⟩
        have hB6 : Below B w w6 := hB5.trans (hb6.mono (by omega))
        rw [hrf.out] at hpost6
        obtain ⟨b6, t6, f6, i6, rfl, _, _⟩ := hpost6
        go_wp2
        go_ret
        exact ⟨by simp, hB6⟩
      | some ad =>
        clear hr6
        go_wp2_with (refine wpList_append_own _ rfl _ _ 22 rfl w4.heap.size 5 iB (.int .u8 0) 1 1 Tryd.underlying22 hiB hzB hsB hbB rfl (by decide) _ _ _ rfl hown ad 0 mcap [] rfl rfl (fun j u h => by cases h) (fun u h => by cases h) (by unfold maxLen; omega) (by omega) (by omega) ?_)
        intro v7 w7 hown7 hgrow _
        have hB7 : Below B w w7 := hB5.grown hgrow (by omega) (fun k hk => by have := (hown.lt k hk).1; omega)
        have hr7 := Veil.mk (read_call l hl2 v7 w7 (hE.out.below hE3 hB7) (own_arg hown7))
        clear hown7 hown
        go_wp2_with fail
        go_at_call 6
        refine hr7.out.mono ?_
        rintro e w8 ⟨hb8, hpost8⟩
        have hB8 : Below B w w8 := hB7.trans (hb8.mono (by have := hB7.size; omega))
        rw [hrf.out] at hpost8
        obtain ⟨b6, t6, f6, i6, rfl, _, _⟩ := hpost8
        go_wp2
        go_ret
        exact ⟨by simp, hB8⟩
    · go_wp2_with (refine wpList_append_own _ rfl _ _ 22 rfl w4.heap.size 5 iB (.int .u8 0) 1 1 Tryd.underlying22 hiB hzB hsB hbB rfl (by decide) _ _ _ rfl hown ad m.length mcap (bCells (numsL m)) rfl (by rw [bCells_length, numsL_length, Nat.mul_one]) hnews ?c2 (by unfold maxLen; omega) (by omega) (by omega) ?_)
      case c2 =>
        intro u hu
        obtain ⟨x, _, rfl⟩ := List.mem_map.1 hu
        rfl
      intro v7 w7 hown7 hgrow _
      have hB7 : Below B w w7 := hB5.grown hgrow (by omega) (fun k hk => by have := (hown.lt k hk).1; omega)
      have hown8 : w7.ownsRow w4.heap.size 5 1 v7 (l ++ m).length (bCells (numsL (l ++ m))) := by
        rw [List.length_append, show bCells (numsL (l ++ m)) = bCells (numsL l) ++ bCells (numsL m) from by unfold bCells numsL; rw [List.map_append, List.map_append]]
        exact hown7
      have hr7 := Veil.mk (read_call (l ++ m) (by rw [List.length_append]; omega) v7 w7 (hE.out.below hE3 hB7) (own_arg hown8))
      have hz7 := hB7.size
      clear hown7 hown8 hown hnews
      by_cases hme : m = []
      · subst hme
        have hrf8 : Veil (readF (l ++ []) = some D) := ⟨by rw [List.append_nil]; exact hrf.out⟩
        go_wp2_with fail
        go_at_call 6
        refine hr7.out.mono ?_
        rintro e w8 ⟨hb8, hpost8⟩
        have hB8 : Below B w w8 := hB7.trans (hb8.mono (by omega))
        rw [hrf8.out] at hpost8
        obtain ⟨b6, t6, f6, i6, rfl, _, _⟩ := hpost8
        go_wp2
        go_ret
        exact ⟨by simp, hB8⟩
      · have hrm8 := Veil.mk (hrm.out hme)
        have hml : (0 : Int) < (m.length : Int) := by
          have : m.length ≠ 0 := fun h => hme (List.length_eq_zero_iff.1 h)
          omega
        have hml' : decide ((0 : Int) < (m.length : Int)) = true := by simpa using hml
        replace hme := Veil.mk hme
        go_wp2_with fail
        go_at_call 6
        refine hr7.out.mono ?_
        rintro e w8 ⟨hb8, hpost8⟩
        have hB8 : Below B w w8 := hB7.trans (hb8.mono (by omega))
        rw [hrm8.out] at hpost8
        obtain ⟨te8, pe8, rfl⟩ := hpost8
        go_wp2
        go_ret
        exact ⟨by first | (simp; done) | (simp; omega), hB8⟩
end Go.Proofs.YtfdkdghhdigfbaaDoor
