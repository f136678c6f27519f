/- The law ObsFloats, at any arguments. -/
import Derived.Test.YtnggflfjmgbncaaDoorTo7
import Derived.Test.YtnggflfjmgbncaaDoorTk
namespace Go.Proofs.YtnggflfjmgbncaaDoor
open Go Go.RowKit Go.Sort Go.Lib Ieee Ev.Fl
open Ev (laid_rel AllOk ev_call isT isT_val ofL itemsO)
set_option maxRecDepth 100000

theorem listB (s : ByteArray) (l : List UInt8) : (s.toList == l) = decide (s.data.toList = l) := by
  rw [ByteArray.toList_eq, Bool.eq_iff_iff, beq_iff_eq, decide_eq_true_iff]

/-- No space, no bracket. -/
def Plain (l : List UInt8) : Prop := ∀ b ∈ l, b.toNat ≠ 32 ∧ b.toNat ≠ 40 ∧ b.toNat ≠ 41
theorem Plain.append {l r : List UInt8} (h : Plain l) (k : Plain r) : Plain (l ++ r) := fun b hb => (List.mem_append.1 hb).elim (h b) (k b)
theorem plain_dec (u : Nat) : Plain (decDigits u) := fun b hb => by have := dec_dig u b hb; omega
theorem plain_one (c : UInt8) (h : c.toNat ≠ 32 ∧ c.toNat ≠ 40 ∧ c.toNat ≠ 41) : Plain [c] := fun b hb => by
  obtain rfl : b = c := by simpa using hb
  exact h
theorem plain_itoa (x : Int) : Plain (itoa x) := by
  unfold itoa
  split
  · exact (plain_one 45 (by decide)).append (plain_dec _)
  · exact plain_dec _
theorem plain_text (a : Nat) (ha : a < 18446744073709551616) : Plain (textOf a).data.toList := by
  rcases text_form a ha with ⟨_, h2⟩ | ⟨_, _, _, h4⟩ | ⟨_, _, _, h4⟩ | ⟨_, _, u, x, h3, _⟩
  · rw [h2]; unfold Plain nanL; decide
  · rw [h4]; unfold Plain infL; decide
  · rw [h4]; unfold Plain ninfL; decide
  · rw [h3]
    unfold numL sgL
    refine Plain.append ?_ ((plain_dec u).append ((plain_one 112 (by decide)).append (plain_itoa x)))
    split
    · exact plain_one 45 (by decide)
    · exact fun b hb => absurd hb (by simp)

theorem whole_extract (s : ByteArray) : s.extract 0 s.size = s := by
  have h : (s.extract 0 s.size).data.toList = s.data.toList := by
    rw [ByteArray.data_extract, Array.toList_extract, List.extract_eq_take_drop]
    exact List.take_of_length_le (Nat.le_refl _)
  rw [eq_bs h, bs_list]

theorem read_plain {s : ByteArray} {k x : Int} (hp : 0 < s.size) (hs : s.size ≤ 1000) (hb : Plain s.data.toList) (hw : Gives 59 #[.string s] (.agg #[.int .i64 k, .int .i64 x, .string ⟨#[]⟩, .slice none 0 0])) :
    Gives 40 #[.string s, .int .i64 0, .int .i64 0] (.tuple #[.agg #[.int .i64 k, .int .i64 x, .string ⟨#[]⟩, .slice none 0 0], .int .i64 s.size]) := by
  have hm : ∀ i (h : i < s.size), s[i].toNat ≠ 32 ∧ s[i].toNat ≠ 40 ∧ s[i].toNat ≠ 41 := fun i h => hb _ (List.getElem_mem (l := s.data.toList) h)
  exact read_leaf s k x hp hs (fun i h e => (hm i h).1 (by omega)) (fun i h e => (hm i h).2.1 (by omega)) (fun i h e => (hm i h).2.2 (by omega)) (whole_extract s) hw

theorem text_pos (a : Nat) (ha : a < 18446744073709551616) : 0 < (textOf a).size := by
  apply Nat.pos_of_ne_zero
  intro h
  have hl : (textOf a).data.toList = [] := List.length_eq_zero_iff.1 h
  have := fpL_text a ha
  rw [hl] at this
  cases this

theorem first_obs_ev : isT ((Ev.ev CC 4000).call 21 [] ⟨ofL (itemsO 141 25 []), 25 + ([] : List Ev.Item).length, 25 + ([] : List Ev.Item).length⟩) = true := by decide +kernel
theorem first_obs (w : World) (hbig : 25 ≤ w.heap.size) : Calls Tryd.prog 21 #[] w fun e w' => e = .returned (.bool true) ∧ Below w.heap.size w w' := by
  have hrel := laid_rel (sy := Ev.syOf [] (Ev.szAt w)) (W := w) (n0 := 25) (tp := 141) (its := []) (ms := []) trivial (by simp) (by simp) (by simp) (Nat.le_refl _) hbig (fun _ _ => rfl)
  obtain ⟨s', hs⟩ := isT_val first_obs_ev
  refine (ev_call (P := Tryd.prog) (C := CC) rfl mixed (ov_ok _ _) hs hrel .nil).mono fun e W' ⟨V', ψ, he, hx, hV⟩ => ?_
  cases hV
  exact ⟨he, ⟨hx.low.os, hx.low.tape, hx.low.output, hx.low.size, hx.low.block⟩⟩

theorem u64_i64 (c : Nat) (hc : c < 18446744073709551616) : IntKind.u64.wrap (wrap64 (c : Int)) = (c : Int) := by
  rw [IntKind.wrap_u64]
  unfold wrap64
  omega
theorem i64_range (c : Int) : -9223372036854775808 ≤ wrap64 c ∧ wrap64 c ≤ 9223372036854775807 := by
  unfold wrap64
  omega

theorem text_same (a b : Nat) (ha : a < 18446744073709551616) (hb : b < 18446744073709551616) : ((textOf (canon a)).toList == (textOf (canon b)).toList) = decide (canon a = canon b) := by
  rw [listB, decide_eq_decide, ByteArray.toList_eq]
  constructor
  · intro h
    have h1 := fpL_text (canon a) (canon_lt a ha)
    have h2 := fpL_text (canon b) (canon_lt b hb)
    rw [h, h2, canon_canon, canon_canon] at h1
    exact (Option.some.inj h1).symm
  · intro h
    rw [h]

theorem bad_canon : ((canon 9218868437227405313 : Nat) : Int) = 9221120237041090560 := by
  have h : isn 9218868437227405313 = true := by rw [isn_eq]; decide
  unfold canon
  rw [h]
  rfl

theorem floats (a b : Nat) (ha : a < 18446744073709551616) (hb : b < 18446744073709551616) (w : World) (hE : Env w) (hbig : 25 ≤ w.heap.size) :
    Calls Tryd.prog 4 #[.int .u64 (a : Int), .int .u64 (b : Int)] w fun e w' => e = .returned (.bool true) ∧ Below w.heap.size w w' := by
  have lift : ∀ {f : Nat} {args : Array Value} {v : Value}, (∀ w : World, Calls Tryd.prog f args w fun e w' => e = .returned v ∧ w' = w) → Gives f args v := fun h w _ => (h w).mono fun _ _ ⟨h1, h2⟩ => ⟨h1, h2 ▸ Below.refl _ _⟩
  have la := canon_lt a ha
  have lb := canon_lt b hb
  have ra := i64_range (canon a : Int)
  have ta := text_flo (wrap64 (canon a : Int)) (canon a : Int) (textOf (canon a)) (u64_i64 _ la) (text_size _ la) (text_call _ la)
  have tb := text_flo (wrap64 (canon b : Int)) (canon b : Int) (textOf (canon b)) (u64_i64 _ lb) (text_size _ lb) (text_call _ lb)
  have il := itoa_length_le (wrap64 (canon a : Int)) ra.1 ra.2
  have sa := text_int (wrap64 (canon a : Int)) (bs (itoa (wrap64 (canon a : Int)))) (by rw [bs_size]; omega) (fun w hE => numText_call _ ra.1 ra.2 w hE.tp)
  have hpt := parse_text (canon a) la
  rw [canon_canon] at hpt
  have wa := word_flo (textOf (canon a)) (canon a : Int) (wrap64 (canon a : Int)) rfl (Nat.le_trans (text_size _ la) (by decide)) (parseInt_text _ la) hpt
  have wi := word_int (bs (itoa (wrap64 (canon a : Int)))) (wrap64 (canon a : Int)) (numParse_is _ ra)
  have hi0 : 0 < (bs (itoa (wrap64 (canon a : Int)))).size := by
    rw [bs_size]
    apply Nat.pos_of_ne_zero
    intro h
    have hl : itoa (wrap64 (canon a : Int)) = [] := List.length_eq_zero_iff.1 h
    have := parseInt_itoa (wrap64 (canon a : Int)) ra
    rw [hl] at this
    cases this
  have va : Gives 25 #[.agg #[.int .i64 2, .int .i64 (wrap64 (canon a : Int)), .string ⟨#[]⟩, .slice none 0 0]] (.bool true) := fun w _ =>
    valid_flo (wrap64 (canon a : Int)) (canon a) true w (u64_i64 _ la) (by rw [canon_canon]; exact beq_self_eq_true _)
  have vi : Gives 25 #[.agg #[.int .i64 1, .int .i64 (wrap64 (canon a : Int)), .string ⟨#[]⟩, .slice none 0 0]] (.bool true) := fun w _ => valid_int _ w
  have vb : Gives 25 #[.agg #[.int .i64 2, .int .i64 9218868437227405313, .string ⟨#[]⟩, .slice none 0 0]] (.bool false) := fun w _ =>
    valid_flo 9218868437227405313 9218868437227405313 false w rfl (by rw [bad_canon]; rfl)
  refine floats_walk a b (canon a) (canon b) (wrap64 (canon a : Int)) (wrap64 (canon b : Int)) (textOf (canon a)) (textOf (canon b)) (bs (itoa (wrap64 (canon a : Int)))) (decide (canon a = canon b)) w hE (first_obs w hbig)
    (lift (ref_canon a ha)) (lift (ref_canon b hb)) rfl rfl ta tb sa
    (parse_leaf _ _ _ (read_plain (text_pos _ la) (text_size _ la) (plain_text _ la) wa) va ta)
    (parse_leaf _ _ _ (read_plain hi0 (by rw [bs_size]; omega) (plain_itoa _) wi) vi sa) va vb ?_ ?_ (text_same a b ha hb) ?_
  · have : wrap64 (canon a : Int) = wrap64 (canon b : Int) ↔ canon a = canon b := by
      unfold wrap64
      omega
    rw [Bool.eq_iff_iff, beq_iff_eq, decide_eq_true_iff]
    exact this
  · rw [Bool.eq_iff_iff, beq_iff_eq, decide_eq_true_iff]
    omega
  · rw [listB, decide_eq_false_iff_not, ByteArray.toList_eq]
    intro h
    have h1 := parseInt_text (canon a) la (wrap64 (canon a : Int))
    rw [h] at h1
    exact h1 (parseInt_itoa _ ra)
end Go.Proofs.YtnggflfjmgbncaaDoor
