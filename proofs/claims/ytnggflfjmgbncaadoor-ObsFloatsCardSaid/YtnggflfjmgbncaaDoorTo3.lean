/- num.Parse at a number's text, at a float's; obs.word. -/
import Derived.Test.YtnggflfjmgbncaaDoorTt
import Derived.Test.YtnggflfjmgbncaaDoorTo2
import Derived.Laws.ResultCell
namespace Go.Proofs.YtnggflfjmgbncaaDoor
open Go Go.RowKit Go.Sort Go.Lib Ieee Ev.Fl
set_option maxRecDepth 100000

theorem pib_minus {D : List UInt8} {u : Nat} (hp : parseUintB 64 D = .ok u) (hu : u ≤ 9223372036854775808) : parseIntB 64 (45 :: D) = .ok (-(u : Int)) := by
  unfold parseIntB
  simp [hp]
  omega
theorem pib_plain {c : UInt8} {r : List UInt8} {u : Nat} (h43 : ¬ c.toNat = 43) (h45 : ¬ c.toNat = 45) (hp : parseUintB 64 (c :: r) = .ok u) (hu : u < 9223372036854775808) : parseIntB 64 (c :: r) = .ok (u : Int) := by
  unfold parseIntB
  simp [h43, h45, hp]
  omega
theorem pib_ok_minus {D : List UInt8} {v : Int} (h : parseIntB 64 (45 :: D) = .ok v) : ∃ k, parseUintB 64 D = .ok k := by
  rcases hq : parseUintB 64 D with k | _ | _
  · exact ⟨k, rfl⟩
  · simp [parseIntB, hq] at h
  · simp [parseIntB, hq] at h
theorem pib_ok_plain {c : UInt8} {r : List UInt8} {v : Int} (h43 : ¬ c.toNat = 43) (h45 : ¬ c.toNat = 45) (h : parseIntB 64 (c :: r) = .ok v) : ∃ k, parseUintB 64 (c :: r) = .ok k := by
  rcases hq : parseUintB 64 (c :: r) with k | _ | _
  · exact ⟨k, rfl⟩
  · simp [parseIntB, h43, h45, hq] at h
  · simp [parseIntB, h43, h45, hq] at h

theorem parseInt_itoa (x : Int) (h : -9223372036854775808 ≤ x ∧ x ≤ 9223372036854775807) : parseIntB 64 (itoa x) = .ok x := by
  unfold itoa
  by_cases hx : x < 0
  · rw [if_pos hx, pib_minus (pub_dec x.natAbs (by omega)) (by omega)]
    congr 1
    omega
  · rw [if_neg hx]
    obtain ⟨c, r, e, h1, h2⟩ := dec_cons x.toNat
    have hp := pub_dec x.toNat (by omega)
    rw [e] at hp ⊢
    rw [pib_plain (by omega) (by omega) hp (by omega)]
    congr 1
    omega

theorem pub_p (u : Nat) (I : List UInt8) (hu : u < 18446744073709551616) (k : Nat) : parseUintB 64 (decDigits u ++ 112 :: I) ≠ .ok k := by
  have hp := pub_dec u hu
  unfold parseUintB at hp ⊢
  rw [if_neg (dec_ne u)] at hp
  rw [if_neg (by simp), pum_append _ _ _ _ _ hp]
  unfold parseUintM
  simp

theorem parseInt_text (a : Nat) (ha : a < 18446744073709551616) (v : Int) : parseIntB 64 (textOf a).data.toList ≠ .ok v := by
  intro h
  rcases text_form a ha with ⟨_, h2⟩ | ⟨_, _, _, h4⟩ | ⟨_, _, _, h4⟩ | ⟨_, _, u, x, h3, h4⟩
  · rw [h2] at h
    obtain ⟨k, hk⟩ := pib_ok_plain (by decide) (by decide) h
    exact absurd hk (by simp [parseUintB, parseUintM])
  · rw [h4] at h
    obtain ⟨k, hk⟩ := pib_ok_plain (by decide) (by decide) h
    exact absurd hk (by simp [parseUintB, parseUintM])
  · rw [h4] at h
    obtain ⟨k, hk⟩ := pib_ok_minus h
    exact absurd hk (by simp [parseUintB, parseUintM])
  · have hu : u < 18446744073709551616 := by
      rcases h4 with ⟨h, _, _⟩ | ⟨_, h, _⟩ <;> omega
    rw [h3] at h
    unfold numL at h
    cases hs : sgn a with
    | true =>
      rw [hs] at h
      obtain ⟨k, hk⟩ := pib_ok_minus h
      exact pub_p u _ hu k hk
    | false =>
      rw [hs] at h
      obtain ⟨c, r, e, h1, h2⟩ := dec_cons u
      have hp := pub_p u (itoa x) hu
      rw [e] at h hp
      obtain ⟨k, hk⟩ := pib_ok_plain (by omega) (by omega) h
      exact hp k hk

theorem parseInt_ok (s : ByteArray) (hmax : s.size ≤ 1000000) (v : Int) (h : Lib.parseIntB 64 s.data.toList = .ok v) (w : World) :
    Calls Tryd.prog 103 #[.string s, .int .i64 10, .int .i64 64] w fun e w' => e = .returned (.tuple #[.int .i64 v, .nilIface]) ∧ Below w.heap.size w w' := by
  refine (Tryd.strconv_ParseInt_10_at64_ok s (by omega) v h w).mono fun e w' ⟨he, hw⟩ => ⟨he, ?_⟩
  rcases hw with rfl | ⟨t, rfl⟩
  · exact Below.refl _ _
  · exact below_bytes _ _ _

theorem parseInt_bad (s : ByteArray) (hmax : s.size ≤ 1000000) (h : ∀ u, Lib.parseIntB 64 s.data.toList ≠ .ok u) : ∃ m : Int, ∀ w, Env w →
    Calls Tryd.prog 103 #[.string s, .int .i64 10, .int .i64 64] w fun e w' => (∃ N, e = .returned (.tuple #[.int .i64 m, .iface 115 (.pointer (some ⟨N, 0, none⟩))])) ∧ Below w.heap.size w w' := by
  rcases hr : Lib.parseIntB 64 s.data.toList with u | _ | _
  · exact (h u hr).elim
  · refine ⟨0, fun w hE => ?_⟩
    obtain ⟨te, pe, hc⟩ := hE.c5
    exact (Tryd.strconv_ParseInt_10_at64_syntax s (by omega) hr _ w hc (.inr ⟨te, pe, rfl⟩)).mono fun e w' ⟨N, he, _, _, hb⟩ => ⟨⟨N, he⟩, hb⟩
  · refine ⟨Lib.intSat 64 s.data.toList, fun w hE => ?_⟩
    obtain ⟨te, pe, hc⟩ := hE.c6
    exact (Tryd.strconv_ParseInt_10_at64_range s (by omega) hr _ w hc (.inr ⟨te, pe, rfl⟩)).mono fun e w' ⟨N, he, _, _, hb⟩ => ⟨⟨N, he⟩, hb⟩

theorem numParse_is (x : Int) (h : -9223372036854775808 ≤ x ∧ x ≤ 9223372036854775807) : Gives 80 #[.string (bs (itoa x))] (.tuple #[.int .i64 x, .nilIface]) := by
  intro w hE
  have hl := itoa_length_le x h.1 h.2
  have hp := parseInt_ok (bs (itoa x)) (by rw [bs_size]; omega) x (parseInt_itoa x h)
  have hself : ((bs (itoa x)).toList == (bs (itoa x)).toList) = true := beq_self_eq_true _
  go_enter Tryd.func80, Tryd.ntmps80
  go_wp2_with (first
    | (go_at_call 103; refine (hp _).mono ?_; rintro e w1 ⟨rfl, hb1⟩; have hE1 := hE.below hb1)
    | (go_at_call 61; refine (numText_call x h.1 h.2 _ hE1.tp).mono ?_; rintro e w2 ⟨rfl, hb2⟩))
  go_ret2
  exact ⟨rfl, hb1.trans (hb2.mono hb1.size)⟩

theorem numParse_not (s : ByteArray) (hmax : s.size ≤ 1000000) (h : ∀ u, Lib.parseIntB 64 s.data.toList ≠ .ok u) (w : World) (hE : Env w) :
    Calls Tryd.prog 80 #[.string s] w fun e w' => (∃ te pe, e = .returned (.tuple #[.int .i64 0, .iface te pe])) ∧ Below w.heap.size w w' := by
  obtain ⟨m, hp⟩ := parseInt_bad s hmax h
  go_enter Tryd.func80, Tryd.ntmps80
  go_wp2_with (first
    | (go_at_call 103; refine (hp _ hE).mono ?_; rintro e w1 ⟨⟨N, rfl⟩, hb1⟩; obtain ⟨te, pe, hc⟩ := (hE.below hb1).c1))
  go_region
  go_wp2
  go_ret2
  exact ⟨⟨te, pe, rfl⟩, hb1.drew⟩


/-- What a walk asks of an observation's block. -/
theorem obs_cells {w : World} {b : Nat} {k n : Int} {s : ByteArray} {l : Value} (h : w.heap[b]? = some (.cells #[.int .i64 k, .int .i64 n, .string s, l] 42 (0, 0))) :
    w.cell? ⟨b, 0, none⟩ = some (.int .i64 k) ∧ w.cell? ⟨b, 1, none⟩ = some (.int .i64 n) ∧ w.cell? ⟨b, 2, none⟩ = some (.string s) ∧ w.cell? ⟨b, 3, none⟩ = some l ∧ ∀ j, w.frozen? ⟨b, j, none⟩ = false := by
  refine ⟨?_, ?_, ?_, ?_, Lib.frozen_of_heap h⟩ <;> (rw [Lib.cell_of_heap h]; rfl)

theorem stored4 {w : World} {B b : Nat} {a0 a1 a2 a3 : Value} (v0 v1 v2 v3 : Value) (hB : B ≤ b) (h : w.heap[b]? = some (.cells #[a0, a1, a2, a3] 42 (0, 0))) :
    ((((w.setCell ⟨b, 0, none⟩ v0).setCell ⟨b, 1, none⟩ v1).setCell ⟨b, 2, none⟩ v2).setCell ⟨b, 3, none⟩ v3).heap[b]? = some (.cells #[v0, v1, v2, v3] 42 (0, 0)) ∧
    Below B w ((((w.setCell ⟨b, 0, none⟩ v0).setCell ⟨b, 1, none⟩ v1).setCell ⟨b, 2, none⟩ v2).setCell ⟨b, 3, none⟩ v3) := by
  refine ⟨?_, ((((Below.refl B w).setCell (p := ⟨b, 0, none⟩) hB _).setCell (p := ⟨b, 1, none⟩) hB _).setCell (p := ⟨b, 2, none⟩) hB _).setCell (p := ⟨b, 3, none⟩) hB _⟩
  simp [World.setCell, Array.getElem?_modify, h]

theorem word_int (s : ByteArray) (x : Int) (hp : Gives 80 #[.string s] (.tuple #[.int .i64 x, .nilIface])) : Gives 59 #[.string s] (.agg #[.int .i64 1, .int .i64 x, .string ⟨#[]⟩, .slice none 0 0]) := by
  intro w hE
  go_enter Tryd.func59, Tryd.ntmps59
  go_wp2_with fail
  have hb0 := below_alloc w (Obj.cells #[.int .i64 0, .int .i64 0, .string ⟨#[]⟩, .slice none 0 0] 42)
  have hE0 := hE.below hb0
  have hk0 : (w.alloc (Obj.cells #[.int .i64 0, .int .i64 0, .string ⟨#[]⟩, .slice none 0 0] 42)).heap[w.heap.size]? = some (.cells #[.int .i64 0, .int .i64 0, .string ⟨#[]⟩, .slice none 0 0] 42 (0, 0)) := heap_alloc_new w _
  have hs0 : (w.alloc (Obj.cells #[.int .i64 0, .int .i64 0, .string ⟨#[]⟩, .slice none 0 0] 42)).heap.size = w.heap.size + 1 := by simp
  go_at_call 80
  refine (hp _ hE0).mono ?_
  rintro e w1 ⟨rfl, hb1⟩
  have hk1 : w1.heap[w.heap.size]? = some (.cells #[.int .i64 0, .int .i64 0, .string ⟨#[]⟩, .slice none 0 0] 42 (0, 0)) := by
    rw [hb1.block _ (by omega)]
    exact hk0
  obtain ⟨c0, c1, c2, c3, cf⟩ := obs_cells hk1
  go_wp2
  obtain ⟨q1, q2⟩ := stored4 (B := w.heap.size) (.int .i64 1) (.int .i64 x) (.string ⟨#[]⟩) (.slice none 0 0) (Nat.le_refl _) hk1
  refine bodyPost_ret (results_cell_row rfl _ _ _ _ _ _ _ rfl q1 Tryd.underlying42 rfl (by kernel_rfl)) rfl ⟨rfl, ?_⟩
  exact (hb0.trans (hb1.mono hb0.size)).trans q2

theorem word_flo (s : ByteArray) (v x : Int) (hx : wrap64 v = x) (hmax : s.size ≤ 1000000) (h : ∀ u, Lib.parseIntB 64 s.data.toList ≠ .ok u) (hp : Gives 12 #[.string s] (.tuple #[.int .u64 v, .nilIface])) :
    Gives 59 #[.string s] (.agg #[.int .i64 2, .int .i64 x, .string ⟨#[]⟩, .slice none 0 0]) := by
  intro w hE
  go_enter Tryd.func59, Tryd.ntmps59
  go_wp2_with fail
  have hb0 := below_alloc w (Obj.cells #[.int .i64 0, .int .i64 0, .string ⟨#[]⟩, .slice none 0 0] 42)
  have hE0 := hE.below hb0
  have hk0 : (w.alloc (Obj.cells #[.int .i64 0, .int .i64 0, .string ⟨#[]⟩, .slice none 0 0] 42)).heap[w.heap.size]? = some (.cells #[.int .i64 0, .int .i64 0, .string ⟨#[]⟩, .slice none 0 0] 42 (0, 0)) := heap_alloc_new w _
  have hs0 : (w.alloc (Obj.cells #[.int .i64 0, .int .i64 0, .string ⟨#[]⟩, .slice none 0 0] 42)).heap.size = w.heap.size + 1 := by simp
  go_at_call 80
  refine (numParse_not s hmax h _ hE0).mono ?_
  rintro e w1 ⟨⟨te, pe, rfl⟩, hb1⟩
  have hE1 := hE0.below hb1
  go_wp2_with fail
  go_at_call 12
  refine (hp _ hE1).mono ?_
  rintro e w2 ⟨rfl, hb2⟩
  have hk1 : w2.heap[w.heap.size]? = some (.cells #[.int .i64 0, .int .i64 0, .string ⟨#[]⟩, .slice none 0 0] 42 (0, 0)) := by
    rw [hb2.block _ (by have := hb1.size; omega), hb1.block _ (by omega)]
    exact hk0
  obtain ⟨c0, c1, c2, c3, cf⟩ := obs_cells hk1
  go_wp2
  obtain ⟨q1, q2⟩ := stored4 (B := w.heap.size) (.int .i64 2) (.int .i64 x) (.string ⟨#[]⟩) (.slice none 0 0) (Nat.le_refl _) hk1
  refine bodyPost_ret (results_cell_row rfl _ _ _ _ _ _ _ rfl q1 Tryd.underlying42 rfl (by kernel_rfl)) rfl ⟨rfl, ?_⟩
  exact ((hb0.trans (hb1.mono hb0.size)).trans (hb2.mono (Nat.le_trans hb0.size hb1.size))).trans q2
end Go.Proofs.YtnggflfjmgbncaaDoor
