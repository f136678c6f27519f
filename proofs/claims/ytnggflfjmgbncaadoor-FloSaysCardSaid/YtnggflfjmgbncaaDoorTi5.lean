/- The reference's digits, walked: digitsL. -/
import Derived.Test.YtnggflfjmgbncaaDoorTi3
import Derived.Test.YtnggflfjmgbncaaDoorTk
import Derived.LoopTactic
namespace Go.Proofs.YtnggflfjmgbncaaDoor
open Go Go.RowKit Go.Lib Ieee
set_option maxRecDepth 100000

theorem size_list (s : ByteArray) : s.data.toList.length = s.size := rfl
theorem take_one (s : ByteArray) (k : Nat) (h : k < s.size) : s.data.toList.take (k + 1) = s.data.toList.take k ++ [s[k]] := by
  rw [List.take_add_one, List.getElem?_eq_getElem (by rw [size_list]; exact h)]
  rfl
theorem drop_one (s : ByteArray) (k : Nat) (h : k < s.size) : s.data.toList = s.data.toList.take k ++ (s[k] :: s.data.toList.drop (k + 1)) := by
  have e : s.data.toList.drop k = s[k] :: s.data.toList.drop (k + 1) := List.drop_eq_getElem_cons (by rw [size_list]; exact h)
  rw [← e, List.take_append_drop]

/-- The first k bytes say N. -/
structure Said (s : ByteArray) (k N : Nat) : Prop where
  le : k ≤ s.size
  eq : decFrom 0 (s.data.toList.take k) = some N
  lt : N < 10 ^ k

theorem digit_in {c : UInt8} (h1 : 48 ≤ c.toNat) (h2 : c.toNat ≤ 57) : digitVal c = some (c.toNat - 48) := by
  have : ∀ n, n < 256 → 48 ≤ n → n ≤ 57 → digitVal (UInt8.ofNat n) = some (n - 48) := by decide +kernel
  have h := this c.toNat (by omega) h1 h2
  rwa [UInt8.ofNat_toNat] at h
theorem digit_out {c : UInt8} (h : c.toNat < 48 ∨ 57 < c.toNat) : digitVal c = none := by
  have : ∀ n, n < 256 → (n < 48 ∨ 57 < n) → digitVal (UInt8.ofNat n) = none := by decide +kernel
  have h := this c.toNat (UInt8.toNat_lt c) h
  rwa [UInt8.ofNat_toNat] at h

theorem Said.start (s : ByteArray) : Said s 0 0 := ⟨Nat.zero_le _, rfl, by decide⟩
theorem Said.step {s : ByteArray} {k N : Nat} (h : Said s k N) (hk : k < s.size) (h1 : 48 ≤ s[k].toNat) (h2 : s[k].toNat ≤ 57) : Said s (k + 1) (10 * N + (s[k].toNat - 48)) := by
  refine ⟨hk, ?_, ?_⟩
  · rw [take_one s k hk, decFrom_append _ _ _ _ h.eq]
    unfold decFrom
    rw [digit_in h1 h2]
    simp only [decFrom]
    congr 1
    omega
  · have := h.lt
    rw [Nat.pow_succ]
    omega
theorem Said.bad {s : ByteArray} {k N : Nat} (h : Said s k N) (hk : k < s.size) (hb : s[k].toNat < 48 ∨ 57 < s[k].toNat) : decFrom 0 s.data.toList = none := by
  rw [drop_one s k hk, decFrom_append _ _ _ _ h.eq]
  unfold decFrom
  rw [digit_out hb]
theorem Said.whole {s : ByteArray} {k N : Nat} (h : Said s k N) (hk : ¬ k < s.size) : decFrom 0 s.data.toList = some N := by
  have := h.eq
  rwa [List.take_of_length_le (by rw [size_list]; omega)] at this
theorem Said.small {s : ByteArray} {k N : Nat} (h : Said s k N) (hm : s.size ≤ 18) : N < 1000000000000000000 := by
  have h1 := h.lt
  have h2 : 10 ^ k ≤ 10 ^ 18 := Nat.pow_le_pow_right (by decide) (by have := h.le; omega)
  have h3 : (10 : Nat) ^ 18 = 1000000000000000000 := by decide
  omega

def dN (o : Option Nat) : Int := ((o.getD 0 : Nat) : Int)

theorem digits_loop (s : ByteArray) (most : Int) (h0 : (s.toList == []) = false) (hp : 0 < s.size) (hm : (s.size : Int) ≤ most) (hm2 : most ≤ 18) (hz : ¬ (s[0].toNat : Int) = 48 ∨ (s.size : Int) ≤ 1) (O : Option Nat) (hO : decFrom 0 s.data.toList = O) (w : World) :
    Calls Tryd.prog 32 #[.string s, .int .i64 most] w fun e w' => e = .returned (.tuple #[.int .i64 (dN O), .bool O.isSome]) ∧ w' = w := by
  go_enter Tryd.func32, Tryd.ntmps32
  go_wp2
  all_goals try (exfalso; omega)
  all_goals
  · go_loop [6, 7] (fun n i => ∃ k N : Nat, i = .int .i64 (k : Int) ∧ n = .int .i64 (N : Int) ∧ k ≤ s.size ∧ N < 1000000000000000000 ∧ Said s k N) (fun _ i => s.size - (RowKit.intOf i).toNat)
    case atStart => exact ⟨0, 0, rfl, rfl, Nat.zero_le _, by decide, Said.start s⟩
    case round =>
      obtain ⟨k, N, rfl, rfl, hk, hN, hS⟩ := hrel
      go_wp2
      all_goals first
        | (have hk1 : k < s.size := by assumption
           have hS' := hS.step hk1 (by omega) (by omega)
           have hN' := hS'.small (by omega)
           refine ⟨⟨k + 1, _, by simp, ?_, by omega, hN', hS'⟩, by simp [RowKit.intOf]; omega⟩
           congr 1
           unfold wrap64
           omega)
        | (have hk1 : k < s.size := by assumption
           have hb : decFrom 0 s.data.toList = none := hS.bad hk1 (by omega)
           go_ret2
           refine ⟨?_, rfl⟩
           rw [← hO, hb]
           rfl)
        | (have hk1 : ¬ k < s.size := by omega
           have hb := hS.whole hk1
           go_ret2
           refine ⟨?_, rfl⟩
           rw [← hO, hb]
           rfl)

theorem list_nil (s : ByteArray) : (s.toList == []) = decide (s.size = 0) := by
  rw [ByteArray.toList_eq, Bool.eq_iff_iff, beq_iff_eq, decide_eq_true_iff, ← size_list]
  exact List.length_eq_zero_iff.symm

theorem digits_empty (s : ByteArray) (most : Int) (h0 : (s.toList == []) = true) (w : World) :
    Calls Tryd.prog 32 #[.string s, .int .i64 most] w fun e w' => e = .returned (.tuple #[.int .i64 (dN none), .bool false]) ∧ w' = w := by
  go_enter Tryd.func32, Tryd.ntmps32
  go_wp2
  go_ret2
  exact ⟨rfl, rfl⟩
theorem digits_long (s : ByteArray) (most : Int) (h0 : (s.toList == []) = false) (_ : 0 < s.size) (hm : most < (s.size : Int)) (w : World) :
    Calls Tryd.prog 32 #[.string s, .int .i64 most] w fun e w' => e = .returned (.tuple #[.int .i64 (dN none), .bool false]) ∧ w' = w := by
  go_enter Tryd.func32, Tryd.ntmps32
  go_wp2
  all_goals try (exfalso; omega)
  all_goals
  · go_ret2
    exact ⟨rfl, rfl⟩
theorem digits_ahead (s : ByteArray) (most : Int) (h0 : (s.toList == []) = false) (hp : 0 < s.size) (hm : (s.size : Int) ≤ most) (hz : (s[0].toNat : Int) = 48) (h1 : 1 < (s.size : Int)) (w : World) :
    Calls Tryd.prog 32 #[.string s, .int .i64 most] w fun e w' => e = .returned (.tuple #[.int .i64 (dN none), .bool false]) ∧ w' = w := by
  go_enter Tryd.func32, Tryd.ntmps32
  go_wp2
  all_goals try (exfalso; omega)
  all_goals
  · go_ret2
    exact ⟨rfl, rfl⟩

/-- The reference's digits. -/
theorem digits_call (s : ByteArray) (most : Nat) (hm : most ≤ 18) (w : World) :
    Calls Tryd.prog 32 #[.string s, .int .i64 (most : Int)] w fun e w' => e = .returned (.tuple #[.int .i64 (dN (digitsL s.data.toList most)), .bool (digitsL s.data.toList most).isSome]) ∧ w' = w := by
  have hn := list_nil s
  by_cases h0 : s.size = 0
  · have e : digitsL s.data.toList most = none := by
      unfold digitsL
      rw [if_pos (.inl (List.length_eq_zero_iff.1 ((size_list s).trans h0)))]
    rw [e]
    exact digits_empty s most (by rw [hn]; exact decide_eq_true h0) w
  have h0' : (s.toList == []) = false := by rw [hn]; exact decide_eq_false h0
  have hp : 0 < s.size := Nat.pos_of_ne_zero h0
  have hne : s.data.toList ≠ [] := fun e => h0 (by rw [← size_list, e]; rfl)
  have hh : s.data.toList.head? = some s[0] := by
    have := drop_one s 0 hp
    rw [List.take_zero, List.nil_append] at this
    rw [this]
    rfl
  by_cases hl : most < s.size
  · have e : digitsL s.data.toList most = none := by
      unfold digitsL
      rw [if_pos (.inr (.inl (by rw [size_list]; exact hl)))]
    rw [e]
    exact digits_long s most h0' hp (by omega) w
  have byte : s[0] = 48 ↔ (s[0].toNat : Int) = 48 := by
    rw [← UInt8.toNat_inj]
    show s[0].toNat = 48 ↔ _
    omega
  by_cases hz : s[0] = 48 ∧ 1 < s.size
  · have e : digitsL s.data.toList most = none := by
      unfold digitsL
      rw [if_pos (.inr (.inr ⟨by rw [hh, hz.1], by rw [size_list]; exact hz.2⟩))]
    rw [e]
    exact digits_ahead s most h0' hp (by omega) (byte.1 hz.1) (by omega) w
  · refine digits_loop s most h0' hp (by omega) (by omega) ?_ _ ?_ w
    · by_cases h48 : s[0] = 48
      · refine .inr ?_
        have h1 : ¬ 1 < s.size := fun h => hz ⟨h48, h⟩
        omega
      · exact .inl fun h => h48 (byte.2 h)
    · unfold digitsL
      rw [if_neg]
      rintro (h | h | ⟨h1, h2⟩)
      · exact hne h
      · rw [size_list] at h; omega
      · rw [hh] at h1
        rw [size_list] at h2
        exact hz ⟨by simpa using h1, h2⟩
end Go.Proofs.YtnggflfjmgbncaaDoor
