/- The law FloForms, at any arguments. -/
import Derived.Test.YtomjoiaahalahaaDoorTh
namespace Go.Proofs.YtomjoiaahalahaaDoor
open Go Go.RowKit Go.Sort Go.Lib Ieee Ev.Fl
set_option maxRecDepth 100000

theorem low16 (m : Int) : ∃ q : Nat, q < 65536 ∧ bits .and .i64 m 65535 = (q : Int) := by
  refine ⟨(BitVec.ofInt 64 m).toNat % 65536, Nat.mod_lt _ (by decide), ?_⟩
  show IntKind.i64.wrap ((BitVec.ofInt 64 m &&& BitVec.ofInt 64 65535).toNat : Int) = _
  have h2 : (BitVec.ofInt 64 (65535 : Int)).toNat = 2 ^ 16 - 1 := by decide
  rw [BitVec.toNat_and, h2, Nat.and_two_pow_sub_one_eq_mod]
  have h3 : (BitVec.ofInt 64 m).toNat % 65536 < 65536 := Nat.mod_lt _ (by decide)
  generalize (BitVec.ofInt 64 m).toNat = x at h3
  simp only [IntKind.wrap, IntKind.bits, IntKind.signed]
  have e : x % 2 ^ 16 = x % 65536 := rfl
  rw [e]
  generalize x % 65536 = y at h3
  simp
  omega

theorem tmod900 (e : Int) : (∃ E : Nat, E < 900 ∧ e.tmod 900 = (E : Int)) ∨ (∃ E : Nat, E < 900 ∧ e.tmod 900 < 0 ∧ -(e.tmod 900) = (E : Int)) := by
  by_cases h : 0 ≤ e
  · rw [Int.tmod_eq_emod_of_nonneg h]
    exact .inl ⟨(e % 900).toNat, by omega, by omega⟩
  · have h1 : e.tmod 900 = -((-e) % 900) := by
      rw [← Int.tmod_eq_emod_of_nonneg (by omega), Int.neg_tmod, Int.neg_neg]
    rw [h1]
    by_cases h2 : (-e) % 900 = 0
    · exact .inl ⟨0, by omega, by omega⟩
    · exact .inr ⟨((-e) % 900).toNat, by omega, by omega, by omega⟩

theorem fails_list {s : ByteArray} {l : List UInt8} (h : s.data.toList = l) (hl : l.length ≤ 1000) (hN : NoText l) : Fails s :=
  fails_of (by rw [Lib.size_eq, h]; exact hl) (by rw [h]; exact hN)

theorem dec_len {u : Nat} (h : u < 18446744073709551616) : (decDigits u).length ≤ 20 := by rw [decDigits_length]; exact nDigits_le20 _ h

theorem all_bad (M E : Nat) (hM : M % 2 = 1) (hM2 : M < 1000000) (hE : E < 900) : ∀ k, k < 13 → Fails (badAt (bs (decDigits M)) (bs (itoa (E : Int))) (bs (decDigits (2 * M))) k) := by
  have l1 := dec_len (u := M) (by omega)
  have l2 := dec_len (u := 2 * M) (by omega)
  have l3 := itoa_length_le (E : Int) (by omega) (by omega)
  have bl : ∀ a b : ByteArray, (a ++ b).data.toList = a.data.toList ++ b.data.toList := fun _ _ => ByteArray.toList_data_append
  have ll : ∀ (D I : List UInt8), (numL false D I).length = D.length + 1 + I.length := fun D I => by simp [numL, sgL]; omega
  have lt : ∀ (D I : List UInt8), (numL true D I).length = D.length + 2 + I.length := fun D I => by simp [numL, sgL]; omega
  intro k hk
  match k, hk with
  | 0, _ => exact fails_list (l := numL false (decDigits (2 * M)) [49]) (by simp only [badAt, bl, bs_data]; rfl) (by rw [ll]; simp; omega) (bad0 M hM hM2)
  | 1, _ => exact fails_list (l := numL false (48 :: decDigits M) (itoa E)) (by simp only [badAt, bl, bs_data, List.append_assoc]; rfl) (by rw [ll]; simp; omega) (bad1 M E)
  | 2, _ => exact fails_list (l := numL false (43 :: decDigits M) (itoa E)) (by simp only [badAt, bl, bs_data, List.append_assoc]; rfl) (by rw [ll]; simp; omega) (bad2 M E)
  | 3, _ => exact fails_list (l := numL true (45 :: decDigits M) (itoa E)) (by simp only [badAt, bl, bs_data, List.append_assoc]; rfl) (by rw [lt]; simp; omega) (bad3 M E)
  | 4, _ => exact fails_list (l := numL false (decDigits M) (itoa E ++ [48, 48, 48, 48])) (by simp only [badAt, bl, bs_data, List.append_assoc]; rfl) (by rw [ll]; simp; omega) (bad4 M E hE)
  | 5, _ => exact fails_list (l := numL false (decDigits M) [48, 49]) (by simp only [badAt, bl, bs_data]; rfl) (by rw [ll]; simp; omega) (bad5 M)
  | 6, _ => exact fails_list (l := decDigits M) rfl (by omega) (bad6 M)
  | 7, _ => exact fails_list (l := [112, 49]) rfl (by decide) bad7
  | 8, _ => exact fails_list (l := numL false (decDigits M) []) (by simp only [badAt, bl, bs_data]; rfl) (by rw [ll]; simp; omega) (bad8 M)
  | 9, _ => exact fails_list (l := [48, 112, 49]) rfl (by decide) bad9
  | 10, _ => exact fails_list (l := [45, 110, 97, 110]) rfl (by decide) bad10
  | 11, _ => exact fails_list (l := [73, 110, 102]) rfl (by decide) bad11
  | 12, _ => exact fails_list (l := [57, 48, 48, 55, 49, 57, 57, 50, 53, 52, 55, 52, 48, 57, 57, 51, 112, 48]) rfl (by decide) bad12

theorem the_good (M E : Nat) (hM : M % 2 = 1) (hM2 : M < 1000000) (hE : E < 900) : ∃ r : Nat, Gives 20 #[.string (bs (decDigits M) ++ ⟨#[112]⟩ ++ bs (itoa (E : Int)))] (.tuple #[.int .u64 (r : Int), .nilIface]) ∧
    Gives 21 #[.int .u64 (r : Int)] (.string (bs (decDigits M) ++ ⟨#[112]⟩ ++ bs (itoa (E : Int)))) := by
  obtain ⟨r, hr, ht⟩ := good_text hM hM2 hE
  have hr64 : r < 18446744073709551616 := Nat.lt_trans hr (by decide)
  obtain ⟨_, _, hn⟩ := small_facts hr
  have e : textOf r = bs (decDigits M) ++ ⟨#[112]⟩ ++ bs (itoa (E : Int)) := by
    rw [eq_bs ht, ← bs_list (bs (decDigits M) ++ ⟨#[112]⟩ ++ bs (itoa (E : Int)))]
    simp only [ByteArray.toList_data_append, bs_data, List.append_assoc]
    rfl
  have hc : canon r = r := by unfold canon; rw [hn]; rfl
  have h1 := parse_text r hr64
  have h2 := text_call r hr64
  rw [hc, e] at h1
  rw [e] at h2
  exact ⟨r, h1, h2⟩

theorem forms (m e : Int) (w : World) (hE : Env w) :
    Calls Tryd.prog 7 #[.int .i64 m, .int .i64 e] w fun e w' => e = .returned (.bool true) ∧ Below w.heap.size w w' := by
  obtain ⟨q, hq, hb⟩ := low16 m
  have hM : wrap64 (wrap64 (2 * bits .and .i64 m 65535) + 1) = ((2 * q + 1 : Nat) : Int) := by
    rw [hb, w64_in (2 * (q : Int)) (by omega), w64_in _ (by omega)]; omega
  generalize hMv : 2 * q + 1 = M at hM
  have hM1 : M % 2 = 1 := by omega
  have hM2 : M < 1000000 := by omega
  have hM3 : wrap64 (2 * (M : Int)) = ((2 * M : Nat) : Int) := by rw [w64_in _ (by omega)]; omega
  have n1 := numText (M : Int) (by omega) (by omega)
  have n2 := numText ((2 * M : Nat) : Int) (by omega) (by omega)
  rw [itoa_nonneg] at n1 n2
  have z1 : (bs (decDigits M)).size ≤ 100 := by rw [bs_size]; have := dec_len (u := M) (by omega); omega
  have z3 : (bs (decDigits (2 * M))).size ≤ 100 := by rw [bs_size]; have := dec_len (u := 2 * M) (by omega); omega
  rcases tmod900 e with ⟨E, hE1, hT⟩ | ⟨E, hE1, hT1, hT2⟩
  · have n3 := numText (E : Int) (by omega) (by omega)
    have z2 : (bs (itoa (E : Int))).size ≤ 100 := by rw [bs_size]; have := itoa_length_le (E : Int) (by omega) (by omega); omega
    obtain ⟨r, g1, g2⟩ := the_good M E hM1 hM2 hE1
    exact forms_pos m e M E (2 * M) _ _ _ r hM hT hM3 first_gives n1 n3 n2 z1 z2 z3 (all_bad M E hM1 hM2 hE1) g1 g2 w hE
  · have n3 := numText (E : Int) (by omega) (by omega)
    have z2 : (bs (itoa (E : Int))).size ≤ 100 := by rw [bs_size]; have := itoa_length_le (E : Int) (by omega) (by omega); omega
    obtain ⟨r, g1, g2⟩ := the_good M E hM1 hM2 hE1
    exact forms_neg m e M E (2 * M) _ _ _ r (e.tmod 900) hM rfl hT1 (by rw [hT2]; exact w64_in _ (by omega)) hM3 first_gives n1 n3 n2 z1 z2 z3 (all_bad M E hM1 hM2 hE1) g1 g2 w hE
end Go.Proofs.YtomjoiaahalahaaDoor
