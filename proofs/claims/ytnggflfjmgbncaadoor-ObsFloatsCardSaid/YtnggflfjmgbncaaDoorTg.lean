/- Texts that are no float's; a text that is one. -/
import Derived.Test.YtnggflfjmgbncaaDoorTt
namespace Go.Proofs.YtnggflfjmgbncaaDoor
open Go Go.RowKit Go.Sort Go.Lib Ieee Ev.Fl
set_option maxRecDepth 100000

def Fits (u : Nat) (x : Int) : Prop := (u = 0 ∧ x = 0) ∨ (u % 2 = 1 ∧ u < 9007199254740992 ∧ -1074 ≤ x ∧ x ≤ 1100)

def NoText (l : List UInt8) : Prop := l ≠ nanL ∧ l ≠ infL ∧ l ≠ ninfL ∧ ∀ s u x, l = numL s (decDigits u) (itoa x) → Fits u x → False

theorem not_text {l : List UInt8} (h : NoText l) (n : Nat) (hn : n < 18446744073709551616) : (textOf n).data.toList ≠ l := by
  intro e
  obtain ⟨h1, h2, h3, h4⟩ := h
  rcases text_form n hn with ⟨_, h⟩ | ⟨_, _, _, h⟩ | ⟨_, _, _, h⟩ | ⟨_, _, u, x, h, hx⟩
  · exact h1 (e ▸ h)
  · exact h2 (e ▸ h)
  · exact h3 (e ▸ h)
  · refine h4 _ u x (e ▸ h) ?_
    rcases hx with ⟨e1, e2, _⟩ | ⟨e1, e2, e3, _⟩
    · exact .inl ⟨e1, e2⟩
    · exact .inr ⟨e1, e2, e3.1, e3.2⟩

theorem fails_of {s : ByteArray} (hs : s.size ≤ 1000) (h : NoText s.data.toList) : Fails s := by
  obtain ⟨n, hn, _, hv⟩ := value_all s hs
  exact parse_not hn hv fun e => not_text h n hn (by rw [e])

theorem dec_inj {u v : Nat} (hu : u < 18446744073709551616) (hv : v < 18446744073709551616) (h : decDigits u = decDigits v) : u = v := by
  have e := (pub_dec u hu).symm.trans ((congrArg _ h).trans (pub_dec v hv))
  injection e

theorem fits_u {u : Nat} {x : Int} (h : Fits u x) : u < 9007199254740992 := by
  rcases h with ⟨h, _⟩ | ⟨_, h, _⟩ <;> omega

/-- A text in three parts is none, if its parts are none's. -/
theorem no_num (s : Bool) (D I : List UInt8) (hD : ∀ b ∈ D, b ≠ 112) (hs : s = false → ∀ r, D ≠ 45 :: r) (h : ∀ u x, D = decDigits u → I = itoa x → Fits u x → False) : NoText (numL s D I) := by
  have hr := reads_num s D I hD hs
  obtain ⟨h1, h2, h3⟩ := not_words hr
  refine ⟨h1, h2, h3, fun s' u x e hf => ?_⟩
  rw [e] at hr
  obtain ⟨_, e1, e2⟩ := reads_unique hr (reads_dec s' u (itoa x))
  exact h u x e1 e2 hf

/-- A text without a p is none. -/
theorem no_p {l : List UInt8} (h : ∀ b ∈ l, b ≠ 112) (h1 : l ≠ nanL) (h2 : l ≠ infL) (h3 : l ≠ ninfL) : NoText l :=
  ⟨h1, h2, h3, fun s u x e _ => h 112 (by rw [e]; unfold numL; simp) rfl⟩

theorem itoa_ne (x : Int) : itoa x ≠ [] := by
  unfold itoa
  split
  · intro h; cases h
  · exact dec_ne _

theorem itoa_digit {x : Int} {c : UInt8} {r : List UInt8} (h : c :: r = itoa x) (hc : c ≠ 45) : 0 ≤ x ∧ c :: r = decDigits x.toNat := by
  unfold itoa at h
  by_cases hx : x < 0
  · rw [if_pos hx] at h
    injection h with h _
    exact (hc h).elim
  · rw [if_neg hx] at h
    exact ⟨by omega, h⟩

/-- No number begins with a 0, but 0. -/
theorem dec_zero {u : Nat} {r : List UInt8} (h : 48 :: r = decDigits u) : u = 0 ∧ r = [] := by
  by_cases hu : u = 0
  · subst hu
    rw [decDigits_one (by decide)] at h
    injection h with _ h
    exact ⟨rfl, h⟩
  · obtain ⟨c, r', e, h1, _⟩ := dec_head u (by omega)
    rw [e] at h
    injection h with h _
    rw [← h] at h1
    exact absurd h1 (by decide)

section
variable (m e : Nat) (hm : m % 2 = 1) (hm2 : m < 1000000) (he : e < 900)
include hm hm2

theorem bad0 : NoText (numL false (decDigits (2 * m)) [49]) :=
  no_num _ _ _ (dec_no_p _) (fun _ r => dec_no_sign _ r) fun u x h1 _ hf => by
    have := fits_u hf
    have e := dec_inj (by omega) (by omega) h1
    rcases hf with ⟨h, _⟩ | ⟨h, _⟩ <;> omega

omit hm hm2 in
theorem bad1 : NoText (numL false (48 :: decDigits m) (itoa e)) :=
  no_num _ _ _ (fun b hb => by
    rcases List.mem_cons.1 hb with h | h
    · rw [h]; decide
    · exact dec_no_p m b h) (fun _ r h => by injection h with h _; exact absurd h (by decide)) fun u x h1 _ _ => dec_ne m (dec_zero h1).2

omit hm hm2 in
theorem bad2 : NoText (numL false (43 :: decDigits m) (itoa e)) :=
  no_num _ _ _ (fun b hb => by
    rcases List.mem_cons.1 hb with h | h
    · rw [h]; decide
    · exact dec_no_p m b h) (fun _ r h => by injection h with h _; exact absurd h (by decide)) fun u x h1 _ _ => by
      have := dec_dig u 43 (by rw [← h1]; exact List.mem_cons_self)
      exact absurd this.1 (by decide)

omit hm hm2 in
theorem bad3 : NoText (numL true (45 :: decDigits m) (itoa e)) :=
  no_num _ _ _ (fun b hb => by
    rcases List.mem_cons.1 hb with h | h
    · rw [h]; decide
    · exact dec_no_p m b h) (fun h => by cases h) fun u x h1 _ _ => dec_no_sign u _ h1.symm

omit hm hm2 in
include he in
theorem bad4 : NoText (numL false (decDigits m) (itoa e ++ [48, 48, 48, 48])) :=
  no_num _ _ _ (dec_no_p _) (fun _ r => dec_no_sign _ r) fun u x _ h2 hf => by
    rw [itoa_nonneg] at h2
    obtain ⟨c, r, hc, hc1, _⟩ := dec_cons e
    have h2' := h2
    rw [hc] at h2'
    obtain ⟨hx0, h3⟩ := itoa_digit h2' (fun h => by rw [h] at hc1; exact absurd hc1 (by decide))
    have h4 : decDigits e ++ [48, 48, 48, 48] = decDigits x.toNat := by rw [hc]; exact h3
    have hx : x ≤ 1100 := by
      rcases hf with ⟨_, h⟩ | ⟨_, _, _, h⟩ <;> omega
    have p1 := pum_dec 18446744073709551615 (by decide) x.toNat (by omega)
    rw [← h4, pum_append _ _ _ 0 e (pum_dec _ (by decide) e (by omega))] at p1
    have p2 : parseUintM 18446744073709551615 e [48, 48, 48, 48] = .ok (e * 10000) := by
      have t : (48 : UInt8).toNat = 48 := rfl
      simp only [parseUintM, t]
      rw [if_pos (by omega), if_neg (by omega), if_neg (by omega), if_pos (by omega), if_neg (by omega), if_neg (by omega), if_pos (by omega), if_neg (by omega), if_neg (by omega), if_pos (by omega), if_neg (by omega), if_neg (by omega)]
      congr 1
      omega
    rw [p2] at p1
    injection p1 with p1
    have e0 : e = 0 := by omega
    have x0 : x.toNat = 0 := by omega
    rw [e0, x0, decDigits_one (by decide)] at h4
    exact absurd h4 (by decide)

omit hm hm2 in
theorem bad5 : NoText (numL false (decDigits m) [48, 49]) :=
  no_num _ _ _ (dec_no_p _) (fun _ r => dec_no_sign _ r) fun u x _ h2 _ => by
    obtain ⟨_, h⟩ := itoa_digit h2 (by decide)
    exact absurd (dec_zero h).2 (by decide)

omit hm hm2 in
theorem dec_not {l : List UInt8} {c : UInt8} (hc : c ∈ l) (h : c.toNat < 48 ∨ 57 < c.toNat) : decDigits m ≠ l := fun e => by
  have := dec_dig m c (by rw [e]; exact hc)
  omega

omit hm hm2 in
theorem bad6 : NoText (decDigits m) :=
  no_p (dec_no_p m) (dec_not m (c := 110) (by decide) (by decide)) (dec_not m (c := 110) (by decide) (by decide)) (dec_not m (c := 110) (by decide) (by decide))

omit hm hm2 in
theorem bad8 : NoText (numL false (decDigits m) []) :=
  no_num _ _ _ (dec_no_p _) (fun _ r => dec_no_sign _ r) fun _ x _ h2 _ => itoa_ne x h2.symm
end

theorem bad7 : NoText [112, 49] :=
  no_num false [] [49] (by simp) (fun _ r h => by cases h) fun u _ h _ _ => dec_ne u h.symm

theorem bad9 : NoText [48, 112, 49] :=
  no_num false [48] [49] (by decide) (fun _ r h => by injection h with h _; exact absurd h (by decide)) fun u x h1 h2 hf => by
    have u0 := (dec_zero h1).1
    have x0 : x = 0 := by rcases hf with ⟨_, h⟩ | ⟨h, _⟩ <;> omega
    rw [x0, show (0 : Int) = ((0 : Nat) : Int) from rfl, itoa_nonneg, decDigits_one (by decide)] at h2
    exact absurd h2 (by decide)

theorem bad10 : NoText [45, 110, 97, 110] := no_p (by decide) (by decide) (by decide) (by decide)
theorem bad11 : NoText [73, 110, 102] := no_p (by decide) (by decide) (by decide) (by decide)
theorem bad12 : NoText [57, 48, 48, 55, 49, 57, 57, 50, 53, 52, 55, 52, 48, 57, 57, 51, 112, 48] :=
  no_num false [57, 48, 48, 55, 49, 57, 57, 50, 53, 52, 55, 52, 48, 57, 57, 51] [48] (by decide) (fun _ r h => by injection h with h _; exact absurd h (by decide)) fun u x h1 _ hf => by
    have hu := fits_u hf
    have h2 := pub_dec u (by omega)
    rw [← h1] at h2
    have h3 : parseUintB 64 [57, 48, 48, 55, 49, 57, 57, 50, 53, 52, 55, 52, 48, 57, 57, 51] = .ok 9007199254740993 := by decide
    rw [h3] at h2
    injection h2 with h2
    omega

/-! ### The good one -/

theorem odd_pow : ∀ (a b u m : Nat), u % 2 = 1 → m % 2 = 1 → u * 2 ^ a = m * 2 ^ b → u = m ∧ a = b
  | 0, 0, u, m, _, _, h => ⟨by simpa using h, rfl⟩
  | 0, b + 1, u, m, hu, _, h => by
    rw [Nat.pow_succ, ← Nat.mul_assoc] at h
    have : u = m * 2 ^ b * 2 := by simpa using h
    omega
  | a + 1, 0, u, m, _, hm, h => by
    rw [Nat.pow_succ, ← Nat.mul_assoc] at h
    have : u * 2 ^ a * 2 = m := by simpa using h
    omega
  | a + 1, b + 1, u, m, hu, hm, h => by
    rw [Nat.pow_succ, Nat.pow_succ, ← Nat.mul_assoc, ← Nat.mul_assoc] at h
    obtain ⟨e1, e2⟩ := odd_pow a b u m hu hm (Nat.eq_of_mul_eq_mul_right (by decide) h)
    exact ⟨e1, by rw [e2]⟩

theorem exists_float {m e : Nat} (h0 : 0 < m) (hm : m < 1000000) (he : e < 900) : ∃ r, r < inf ∧ val r = m * 2 ^ (e + 1074) := by
  obtain ⟨r1, hr1, hv1⟩ := rep m (by omega)
  have hM := mid_of h0 (show m < 18446744073709551616 by omega)
  have hn : rnd (m * U) = r1 := by rw [← hv1]; exact R_val hr1
  have hM' : Mid r1 := hn ▸ hM
  clear hM hn
  obtain ⟨k, f, e1, hf, hk1, hk2, _, _⟩ := mid_parts hM'
  have hk0 : 1 ≤ k := by clear hv1; omega
  have hlt : (k + e) * 4503599627370496 + f < inf := by clear hv1; unfold inf; omega
  have hve : val ((k + e) * 4503599627370496 + f) = (4503599627370496 + f) * 2 ^ (k + e - 1) := val_of _ _ (by clear hv1; omega) hf
  have hvn : (4503599627370496 + f) * 2 ^ (k - 1) = m * U := by rw [← hv1, e1, val_of k f hk0 hf]
  have ha : k + e - 1 + UE = k - 1 + (e + 1074) := by rw [UE_eq]; clear hv1 hvn hve; omega
  exact ⟨_, hlt, hve.trans (pow_shift hvn ha)⟩

/-- The text of an odd number and a power is read, and is its float's. -/
theorem good_text {m e : Nat} (hm : m % 2 = 1) (hm2 : m < 1000000) (he : e < 900) : ∃ r, r < inf ∧ (textOf r).data.toList = numL false (decDigits m) (itoa (e : Int)) := by
  obtain ⟨r, hr, hv⟩ := exists_float (show 0 < m by omega) hm2 he
  obtain ⟨h1, h2, h3⟩ := small_facts hr
  have hr64 : r < 18446744073709551616 := Nat.lt_trans hr (by decide)
  refine ⟨r, hr, ?_⟩
  rcases text_form r hr64 with ⟨h, _⟩ | ⟨_, h, _⟩ | ⟨_, h, _⟩ | ⟨_, _, u, x, h, hx⟩
  · rw [h3] at h; cases h
  · rw [h1] at h; rw [h] at hr; exact absurd hr (by decide)
  · rw [h1] at h; rw [h] at hr; exact absurd hr (by decide)
  · rw [h, h2]
    rcases hx with ⟨_, _, h0⟩ | ⟨e1, _, e3, e4⟩
    · rw [h1] at h0
      rw [h0] at hv
      have : 0 < m * 2 ^ (e + 1074) := Nat.mul_pos (by clear hv; omega) (Nat.pow_pos (by decide))
      rw [← hv] at this
      exact absurd this (by decide)
    · rw [h1, hv] at e4
      obtain ⟨e5, e6⟩ := odd_pow _ _ _ _ hm e1 e4
      clear e4 hv
      rw [e5, show x = (e : Int) by omega]
end Go.Proofs.YtnggflfjmgbncaaDoor
