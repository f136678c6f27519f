/- A float's text is read. -/
import Derived.Test.YtnggflfjmgbncaaDoorTe
namespace Go.Proofs.YtnggflfjmgbncaaDoor
open Go Go.RowKit Go.Sort Go.Lib Ieee Ev.Fl
set_option maxRecDepth 100000

theorem one_half : textOf 4609434218613702656 = ⟨#[51, 112, 45, 49]⟩ := by
  have hn : isn 4609434218613702656 = false := by rw [isn_eq]; decide
  have hm : mant 4609434218613702656 = 6755399441055744 := by decide
  have hc : ctz 64 6755399441055744 = 51 := by decide
  have he : expo 4609434218613702656 = -52 := by decide
  unfold textOf
  rw [isn_text, hn, infs_pos _ hn, infs_neg _ (by decide) hn, hm, hc, he]
  rw [if_neg (by decide), if_neg (by decide), if_neg (by decide), if_neg (by decide)]
  rw [show 6755399441055744 / 2 ^ 51 = 3 by decide, decDigits_one (by decide), show (-52 : Int) + ((51 : Nat) : Int) = -((1 : Nat) : Int) by decide, itoa_neg 1 (by decide), decDigits_one (by decide)]
  rfl

theorem text_size (a : Nat) (ha : a < 18446744073709551616) : (textOf a).size ≤ 1000 := by
  rw [Lib.size_eq]
  rcases text_form a ha with ⟨_, h⟩ | ⟨_, _, _, h⟩ | ⟨_, _, _, h⟩ | ⟨_, _, u, x, h, hx⟩
  · rw [h]; decide
  · rw [h]; decide
  · rw [h]; decide
  · rw [h]
    have hu : u < 18446744073709551616 ∧ -9223372036854775808 ≤ x ∧ x ≤ 9223372036854775807 := by
      rcases hx with ⟨e1, e2, _⟩ | ⟨_, e2, e3, _⟩
      · omega
      · clear h; omega
    have h1 : (decDigits u).length ≤ 20 := by rw [decDigits_length]; exact nDigits_le20 _ hu.1
    have h2 := itoa_length_le x hu.2.1 hu.2.2
    have h3 : (sgL (sgn a)).length ≤ 1 := by unfold sgL; split <;> decide
    clear hx
    simp only [numL, List.length_append, List.length_cons]
    omega

theorem first_gives : Gives 5 #[] (.bool true) := first_walk one_half

/-- A text that is its float's is read. -/
theorem parse_is {s : ByteArray} {n : Nat} (hn : n < 18446744073709551616) (hv : Gives 31 #[.string s] (.int .u64 (n : Int))) (h : textOf n = s) : Gives 12 #[.string s] (.tuple #[.int .u64 (n : Int), .nilIface]) :=
  fun w hE => parse_good_walk s (textOf n) n hv (text_call n hn) (by rw [h]; exact beq_self_eq_true _) w hE
theorem parse_not {s : ByteArray} {n : Nat} (hn : n < 18446744073709551616) (hv : Gives 31 #[.string s] (.int .u64 (n : Int))) (h : textOf n ≠ s) : Fails s :=
  fun w hE => parse_bad_walk s (textOf n) n hv (text_call n hn) (by
    rw [beq_eq_false_iff_ne, ByteArray.toList_eq, ByteArray.toList_eq]
    exact fun e => h (by rw [← bs_list (textOf n), e, bs_list])) w hE

theorem parse_text (a : Nat) (ha : a < 18446744073709551616) : Gives 12 #[.string (textOf a)] (.tuple #[.int .u64 (canon a : Int), .nilIface]) := by
  obtain ⟨n, hn, hR, hv⟩ := value_all (textOf a) (text_size a ha)
  have e := hR _ (R_text a ha)
  subst e
  exact parse_is hn hv (text_eq _ _ (canon_canon a))

end Go.Proofs.YtnggflfjmgbncaaDoor
