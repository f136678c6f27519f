/- flo.value, flo.Parse, flo.Canon: what they are. -/
import Derived.Test.YtnggflfjmgbncaaDoorTq
namespace Go.Proofs.YtnggflfjmgbncaaDoor
open Go Go.RowKit Go.Sort Go.Lib Ieee Ev.Fl
set_option maxRecDepth 100000

def bs (l : List UInt8) : ByteArray := ⟨l.toArray⟩
theorem bs_list (s : ByteArray) : bs s.data.toList = s := by cases s; rfl
theorem bs_data (l : List UInt8) : (bs l).data.toList = l := rfl
theorem bs_size (l : List UInt8) : (bs l).size = l.length := by simp [bs, ByteArray.size]
theorem eq_bs {s : ByteArray} {l : List UInt8} (h : s.data.toList = l) : s = bs l := by rw [← h, bs_list]

theorem cut_len (l : List UInt8) : (cut l [112]).1.length ≤ l.length ∧ (cut l [112]).2.1.length ≤ l.length := by
  unfold cut
  split
  · simp only [List.length_take, List.length_drop]; omega
  · simp
theorem trim_len (l : List UInt8) : (trimPrefix l [45]).length ≤ l.length := by
  unfold trimPrefix
  split <;> simp

theorem ldexp_all (u : Nat) (hu : u < 18446744073709551616) (x : Int) : ∃ r, r < 18446744073709551616 ∧ (∀ s v, V s u x v → r < 9223372036854775808 ∧ v = double.word s r) ∧
    ∀ w, Calls Tryd.prog 52 #[.float .f64 (floatOfInt .f64 (u : Int)), .int .i64 x] w fun e w' => e = .returned (.float .f64 r) ∧ w' = w := by
  rw [floatOfInt_nat]
  by_cases h0 : u = 0
  · subst h0
    refine ⟨0, by decide, fun s v h => ⟨by decide, ?_⟩, fun w => ?_⟩
    · rcases h with ⟨_, h⟩ | ⟨h, _⟩
      · exact h
      · omega
    · have hz : rnd (0 * U) = 0 := by rw [Nat.zero_mul]; rfl
      rw [hz]
      exact L.Ldexp (fun w => L.ldexp_zero x w) w
  by_cases h : 0 < u ∧ u < 9007199254740992 ∧ (-1074 ≤ x ∧ x ≤ 1000000) ∧ ∃ r, r < inf ∧ val r = u * 2 ^ (x + 1074).toNat
  · obtain ⟨h1, h2, h3, r, hr, hv⟩ := h
    have hr' : r < 9223372036854775808 := Nat.lt_trans hr inf_lt
    refine ⟨r, Nat.lt_trans hr' (by decide), fun s v h => ⟨hr', ?_⟩, fun w => ldexp_exact u r x h1 h2 h3 hr hv w⟩
    rcases h with ⟨h, _⟩ | ⟨_, _, _, r', _, hv', h⟩
    · exact (h0 h).elim
    · rw [h, val_inj (hv'.trans hv.symm)]
  · obtain ⟨r, hr, hc⟩ := ldexp_any u hu x
    refine ⟨r, hr, fun s v hV => ?_, hc⟩
    rcases hV with ⟨h', _⟩ | ⟨h1, h2, h3, r', hr', hv', _⟩
    · exact (h0 h').elim
    · exact (h ⟨h1, h2, h3, r', hr', hv'⟩).elim

theorem copysign_neg (r : Nat) (hr : r < 18446744073709551616) (w : World) : Calls Tryd.prog 53 #[.float .f64 r, .float .f64 13830554455654793216] w fun e w' => e = .returned (.float .f64 (9223372036854775808 + r % 9223372036854775808)) ∧ w' = w := by
  refine L.copysign r 13830554455654793216 _ ((r % 9223372036854775808 : Nat) : Int) 9223372036854775808 ?_ (by decide) ?_ w
  · have h := bits_andNot_u64 r 9223372036854775808 hr (by decide)
    rw [show 18446744073709551615 - 9223372036854775808 = 2 ^ 63 - 1 from rfl, Nat.and_two_pow_sub_one_eq_mod] at h
    exact h
  · have h := bits_or_u64_nat (r % 9223372036854775808) 9223372036854775808 (by omega) (by decide)
    have e : r % 9223372036854775808 ||| 9223372036854775808 = 9223372036854775808 + r % 9223372036854775808 := by
      have := Nat.two_pow_add_eq_or_of_lt (i := 63) (show r % 9223372036854775808 < 2 ^ 63 by omega) 1
      rw [Nat.or_comm, show (9223372036854775808 : Nat) = 2 ^ 63 * 1 from rfl, ← this]
    rw [e] at h
    exact h

/-- What a text may say: whatever it is, it is the same each time; and where it is a float's text it is that float. -/
theorem value_all (s : ByteArray) (hs : s.size ≤ 1000) : ∃ n, n < 18446744073709551616 ∧ (∀ v, R s.data.toList v → n = v) ∧
    ∀ w, Env w → Calls Tryd.prog 31 #[.string s] w fun e w' => e = .returned (.int .u64 (n : Int)) ∧ Below w.heap.size w w' := by
  have hl : s.data.toList.length ≤ 1000 := by rw [← Lib.size_eq]; exact hs
  by_cases hi : s.data.toList = infL
  · have e := eq_bs hi
    subst e
    exact ⟨inf, by decide, fun v h => R_unique (.inr (.inl ⟨rfl, rfl⟩)) h, fun w _ => (value_inf w).mono fun e w' ⟨he, hw⟩ => ⟨he, hw ▸ Below.refl _ _⟩⟩
  by_cases hn : s.data.toList = ninfL
  · have e := eq_bs hn
    subst e
    exact ⟨NInf, by decide, fun v h => R_unique (.inr (.inr (.inl ⟨rfl, rfl⟩))) h, fun w _ => (value_ninf w).mono fun e w' ⟨he, hw⟩ => ⟨he, hw ▸ Below.refl _ _⟩⟩
  have h1 : (s.toList == [105, 110, 102]) = false := by rw [ByteArray.toList_eq, beq_eq_false_iff_ne]; exact hi
  have h2 : (s.toList == [45, 105, 110, 102]) = false := by rw [ByteArray.toList_eq, beq_eq_false_iff_ne]; exact hn
  have hX := Tryd.strings_CutPrefix s ⟨#[45]⟩
  have hC : ∀ w, Env w → Calls Tryd.prog 49 #[.string (bs (trimPrefix s.data.toList [45])), .string ⟨#[112]⟩] w fun e w' => e = .returned (.tuple #[.string (bs (cut (trimPrefix s.data.toList [45]) [112]).1), .string (bs (cut (trimPrefix s.data.toList [45]) [112]).2.1), .bool (cut (trimPrefix s.data.toList [45]) [112]).2.2]) ∧ ∃ n, w' = w.drewN n := fun w hE => by
    obtain ⟨m, hm⟩ := hE.c4
    have := trim_len s.data.toList
    exact Tryd.strings_Cut (bs (trimPrefix s.data.toList [45])) ⟨#[112]⟩ m w (by rw [bs_size]; omega) hm
  have hl1 := trim_len s.data.toList
  have hl2 := cut_len (trimPrefix s.data.toList [45])
  have hR : ∀ v, R s.data.toList v → (s.data.toList = nanL ∧ v = NaNb) ∨ ∃ u x, (cut (trimPrefix s.data.toList [45]) [112]).2.2 = true ∧ parseUintB 64 (cut (trimPrefix s.data.toList [45]) [112]).1 = .ok u ∧ atoiAll (cut (trimPrefix s.data.toList [45]) [112]).2.1 = .ok x ∧ V (hasPrefix s.data.toList [45]) u x v := by
    intro v h
    rcases h with h | ⟨h, _⟩ | ⟨h, _⟩ | ⟨b, D, I, u, x, ⟨e1, e2⟩, hu, hx, hV⟩
    · exact .inl h
    · exact (hi h).elim
    · exact (hn h).elim
    · rw [e1, e2]
      exact .inr ⟨u, x, rfl, hu, hx, hV⟩
  have hw : (cut (trimPrefix s.data.toList [45]) [112]).2.2 = true → s.data.toList ≠ nanL := fun h e => by
    rw [e] at h
    have e1 : (cut (trimPrefix nanL [45]) [112]).2.2 = false := by decide
    rw [e1] at h
    cases h
  clear hi hn
  revert hX hC hl1 hl2 hR hw
  show (∀ w, Calls Tryd.prog 48 #[.string s, .string ⟨#[45]⟩] w fun e w' => e = .returned (.tuple #[.string (bs (trimPrefix s.data.toList [45])), .bool (hasPrefix s.data.toList [45])]) ∧ w' = w) → _
  generalize trimPrefix s.data.toList [45] = t
  generalize hasPrefix s.data.toList [45] = neg
  obtain ⟨D, I, is⟩ := cut t [112]
  intro hX hC hl1 hl2 hR hw
  have hD : (bs D).size ≤ 1000000 := by rw [bs_size]; have := hl2.1; simp only at this; omega
  have hI : (bs I).size ≤ 1000000 := by rw [bs_size]; have := hl2.2; simp only at this; omega
  cases is with
  | false =>
    obtain ⟨mv, hP⟩ := parse_some (bs D) hD
    obtain ⟨ev, hA⟩ := atoi_some (bs I) hI
    refine ⟨NaNb, by decide, fun v h => ?_, fun w hE => value_none s (bs t) (bs D) (bs I) neg mv ev h1 h2 hX hC hP hA w hE⟩
    rcases hR v h with ⟨_, h⟩ | ⟨_, _, h, _⟩
    · exact h.symm
    · cases h
  | true =>
    by_cases hu : ∃ u, parseUintB 64 D = .ok u
    · obtain ⟨u, hu⟩ := hu
      have hu64 : u < 18446744073709551616 := by
        have h := parseUintB_le hu
        have e : 2 ^ 64 - 1 = 18446744073709551615 := rfl
        rw [e] at h
        omega
      by_cases hx : ∃ x, atoiAll I = .ok x
      · obtain ⟨x, hx⟩ := hx
        obtain ⟨r, hr, hV, hL⟩ := ldexp_all u hu64 x
        have hP : ∀ w, Env w → _ := fun w _ => parse_ok (bs D) hD u hu w
        have hA : ∀ w, Env w → _ := fun w _ => atoi_ok (bs I) hI x hx w
        have hnanl : ∀ v, R s.data.toList v → V neg u x v := fun v h => by
          rcases hR v h with ⟨h, _⟩ | ⟨u', x', _, hu', hx', h⟩
          · exact (hw rfl h).elim
          · have e1 := hu.symm.trans hu'
            have e2 := hx.symm.trans hx'
            injection e1 with e1
            injection e2 with e2
            rw [e1, e2]
            exact h
        cases neg with
        | false =>
          refine ⟨r, hr, fun v h => ?_, fun w hE => value_pos s (bs t) (bs D) (bs I) u x r h1 h2 hX hC hP hA hL w hE⟩
          obtain ⟨_, e⟩ := hV _ v (hnanl v h)
          rw [e, word_eq]
          rfl
        | true =>
          refine ⟨9223372036854775808 + r % 9223372036854775808, by omega, fun v h => ?_, fun w hE => value_neg s (bs t) (bs D) (bs I) u x r _ h1 h2 hX hC hP hA hL (copysign_neg r hr) w hE⟩
          obtain ⟨hr3, e⟩ := hV _ v (hnanl v h)
          rw [e, word_eq, Nat.mod_eq_of_lt hr3]
          rfl
      · have hP : ∀ w, Env w → _ := fun w _ => parse_ok (bs D) hD u hu w
        obtain ⟨ev, hA⟩ := atoi_bad (bs I) hI (fun v hv => hx ⟨v, hv⟩)
        refine ⟨NaNb, by decide, fun v h => ?_, fun w hE => value_badA s (bs t) (bs D) (bs I) neg u ev h1 h2 hX hC hP hA w hE⟩
        rcases hR v h with ⟨_, h⟩ | ⟨_, x, _, _, h, _⟩
        · exact h.symm
        · exact (hx ⟨x, h⟩).elim
    · obtain ⟨mv, hP⟩ := parse_bad (bs D) hD (fun v hv => hu ⟨v, hv⟩)
      obtain ⟨ev, hA⟩ := atoi_some (bs I) hI
      refine ⟨NaNb, by decide, fun v h => ?_, fun w hE => value_badP s (bs t) (bs D) (bs I) neg mv ev h1 h2 hX hC hP hA w hE⟩
      rcases hR v h with ⟨_, h⟩ | ⟨u, _, _, h, _⟩
      · exact h.symm
      · exact (hu ⟨u, h⟩).elim
end Go.Proofs.YtnggflfjmgbncaaDoor
