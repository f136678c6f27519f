/- The law FloForms, walked. -/
import Derived.Test.YtomjoiaahalahaaDoorTg
import Derived.LoopTactic
import Derived.WalkKit
namespace Go.Proofs.YtomjoiaahalahaaDoor
open Go Go.RowKit Go.Sort Go.Lib Ieee Ev.Fl
set_option maxRecDepth 100000

theorem numText (n : Int) (h0 : -9223372036854775808 ≤ n) (h1 : n ≤ 9223372036854775807) : Gives 19 #[.int .i64 n] (.string (bs (itoa n))) := fun w hE => by
  have hF := Tryd.strconv_FormatInt_10 n h0 h1 w hE.tp
  clear h0 h1
  go_enter Tryd.func19, Tryd.ntmps19
  go_wp2_with (go_at_call 26; refine hF.mono ?_; rintro e w' ⟨rfl, k, os, rfl⟩)
  go_ret
  exact ⟨rfl, Lib.below_grow _ _ (Nat.le_refl _) _ _⟩

/-- The texts that are none's, in the order of the law's list. -/
def badAt (sm se s2 : ByteArray) : Nat → ByteArray
  | 0 => s2 ++ ⟨#[112, 49]⟩
  | 1 => ⟨#[48]⟩ ++ (sm ++ ⟨#[112]⟩ ++ se)
  | 2 => ⟨#[43]⟩ ++ (sm ++ ⟨#[112]⟩ ++ se)
  | 3 => ⟨#[45, 45]⟩ ++ (sm ++ ⟨#[112]⟩ ++ se)
  | 4 => sm ++ ⟨#[112]⟩ ++ se ++ ⟨#[48, 48, 48, 48]⟩
  | 5 => sm ++ ⟨#[112, 48, 49]⟩
  | 6 => sm
  | 7 => ⟨#[112, 49]⟩
  | 8 => sm ++ ⟨#[112]⟩
  | 9 => ⟨#[48, 112, 49]⟩
  | 10 => ⟨#[45, 110, 97, 110]⟩
  | 11 => ⟨#[73, 110, 102]⟩
  | _ => ⟨#[57, 48, 48, 55, 49, 57, 57, 50, 53, 52, 55, 52, 48, 57, 57, 51, 112, 48]⟩

structure Inv (w : World) (B : Nat) (T : Nat → ByteArray) (wr : World) : Prop where
  on : On w wr
  lt : B < wr.heap.size
  cell : ∀ j, j < 13 → wr.cell? ⟨B, j, none⟩ = some (.string (T j))

theorem Inv.start {w w1 : World} {T : Nat → ByteArray} (h : On w w1) (C : Array Value) (ty : TypeId) (hC : ∀ j, j < 13 → C[j]? = some (.string (T j))) : Inv w w1.heap.size T (w1.alloc (.cells C ty)) :=
  ⟨h.step ((Below.refl _ _).alloc (Nat.le_refl _) _), by simp, fun j hj => by rw [World.cell?_alloc_new]; exact hC j hj⟩

theorem Inv.step {w w1 w2 : World} {B : Nat} {T : Nat → ByteArray} (h : Inv w B T w1) (hb : Below w1.heap.size w1 w2) : Inv w B T w2 :=
  ⟨h.on.step hb, Nat.lt_of_lt_of_le h.lt hb.size, fun j hj => by
    have := hb.block B h.lt
    rw [← h.cell j hj]
    unfold World.cell?
    rw [this]⟩

theorem forms_pos (m e : Int) (M E M2 : Nat) (sm se s2 : ByteArray) (r : Int) (hM : wrap64 (wrap64 (2 * bits .and .i64 m 65535) + 1) = (M : Int)) (hT : e.tmod 900 = (E : Int)) (hM2 : wrap64 (2 * (M : Int)) = (M2 : Int))
    (hf : Gives 9 #[] (.bool true)) (hn1 : Gives 19 #[.int .i64 (M : Int)] (.string sm)) (hn2 : Gives 19 #[.int .i64 (E : Int)] (.string se)) (hn3 : Gives 19 #[.int .i64 (M2 : Int)] (.string s2)) (z1 : sm.size ≤ 100) (z2 : se.size ≤ 100) (z3 : s2.size ≤ 100)
    (hbad : ∀ k, k < 13 → Fails (badAt sm se s2 k)) (hg : Gives 20 #[.string (sm ++ ⟨#[112]⟩ ++ se)] (.tuple #[.int .u64 r, .nilIface])) (hgt : Gives 21 #[.int .u64 r] (.string (sm ++ ⟨#[112]⟩ ++ se))) (w : World) (hE : Env w) :
    Calls Tryd.prog 7 #[.int .i64 m, .int .i64 e] w fun e w' => e = .returned (.bool true) ∧ Below w.heap.size w w' := by
  have h0 := On.start hE
  go_enter Tryd.func7, Tryd.ntmps7
  go_wp2_with (first
    | (go_at_call 9; with_reducible refine (hf _ (On.env (by assumption))).mono ?_; rintro e w1 ⟨rfl, hb⟩; have h1 := On.step (by assumption) hb; clear hb)
    | (go_at_call 19; with_reducible refine (hn1 _ (On.env (by assumption))).mono ?_; rintro e w1 ⟨rfl, hb⟩; have h1 := On.step (by assumption) hb; clear hb)
    | (go_at_call 19; with_reducible refine (hn2 _ (On.env (by assumption))).mono ?_; rintro e w1 ⟨rfl, hb⟩; have h1 := On.step (by assumption) hb; clear hb)
    | (go_at_call 19; with_reducible refine (hn3 _ (On.env (by assumption))).mono ?_; rintro e w1 ⟨rfl, hb⟩; have h1 := On.step (by assumption) hb; clear hb))
  all_goals first | (exfalso; omega) | skip
  go_loopw [8] (fun vi wr => ∃ k : Nat, k ≤ 13 ∧ vi = .int .i64 k ∧ Inv w w1.heap.size (badAt sm se s2) wr) (fun vi _ => 13 - (RowKit.intOf vi).toNat)
  case atStart => exact ⟨0, by omega, rfl, Inv.start h1 _ _ fun j hj => by
    match j, hj with
    | 0, _ | 1, _ | 2, _ | 3, _ | 4, _ | 5, _ | 6, _ | 7, _ | 8, _ | 9, _ | 10, _ | 11, _ | 12, _ => rfl⟩
  case round =>
    obtain ⟨k, hk, rfl, hI⟩ := hrel
    have hon := hI.on
    by_cases hk13 : k < 13
    · have hcell := hI.cell k hk13
      have hq := hbad k hk13
      generalize badAt sm se s2 k = tk at hcell hq
      go_wp2_with (first
        | (go_at_call 20; with_reducible refine (hq _ (On.env (by assumption))).mono ?_; rintro e w2 ⟨⟨te, pe, rfl⟩, hb⟩; have hI2 := hI.step hb; clear hb))
      all_goals first | (exfalso; omega) | skip
      go_roundw
      case rel => exact ⟨k + 1, by omega, by go_num, hI2⟩
      case measure => simp [RowKit.intOf]; omega
    · obtain rfl : k = 13 := by omega
      go_wp2_with (first
        | (go_at_call 20; with_reducible refine (hg _ (On.env (by assumption))).mono ?_; rintro e w3 ⟨rfl, hb⟩; have h3 := On.step (by assumption) hb; clear hb)
        | (go_at_call 21; with_reducible refine (hgt _ (On.env (by assumption))).mono ?_; rintro e w3 ⟨rfl, hb⟩; have h3 := On.step (by assumption) hb; clear hb))
      go_ret
      exact ⟨rfl, On.old (by assumption)⟩

theorem forms_neg (m e : Int) (M E M2 : Nat) (sm se s2 : ByteArray) (r t : Int) (hM : wrap64 (wrap64 (2 * bits .and .i64 m 65535) + 1) = (M : Int)) (hT : e.tmod 900 = t) (ht : t < 0) (hN : wrap64 (-t) = (E : Int)) (hM2 : wrap64 (2 * (M : Int)) = (M2 : Int))
    (hf : Gives 9 #[] (.bool true)) (hn1 : Gives 19 #[.int .i64 (M : Int)] (.string sm)) (hn2 : Gives 19 #[.int .i64 (E : Int)] (.string se)) (hn3 : Gives 19 #[.int .i64 (M2 : Int)] (.string s2)) (z1 : sm.size ≤ 100) (z2 : se.size ≤ 100) (z3 : s2.size ≤ 100)
    (hbad : ∀ k, k < 13 → Fails (badAt sm se s2 k)) (hg : Gives 20 #[.string (sm ++ ⟨#[112]⟩ ++ se)] (.tuple #[.int .u64 r, .nilIface])) (hgt : Gives 21 #[.int .u64 r] (.string (sm ++ ⟨#[112]⟩ ++ se))) (w : World) (hE : Env w) :
    Calls Tryd.prog 7 #[.int .i64 m, .int .i64 e] w fun e w' => e = .returned (.bool true) ∧ Below w.heap.size w w' := by
  have h0 := On.start hE
  go_enter Tryd.func7, Tryd.ntmps7
  go_wp2_with (first
    | (go_at_call 9; with_reducible refine (hf _ (On.env (by assumption))).mono ?_; rintro e w1 ⟨rfl, hb⟩; have h1 := On.step (by assumption) hb; clear hb)
    | (go_at_call 19; with_reducible refine (hn1 _ (On.env (by assumption))).mono ?_; rintro e w1 ⟨rfl, hb⟩; have h1 := On.step (by assumption) hb; clear hb)
    | (go_at_call 19; with_reducible refine (hn2 _ (On.env (by assumption))).mono ?_; rintro e w1 ⟨rfl, hb⟩; have h1 := On.step (by assumption) hb; clear hb)
    | (go_at_call 19; with_reducible refine (hn3 _ (On.env (by assumption))).mono ?_; rintro e w1 ⟨rfl, hb⟩; have h1 := On.step (by assumption) hb; clear hb))
  all_goals first | (exfalso; omega) | skip
  go_loopw [8] (fun vi wr => ∃ k : Nat, k ≤ 13 ∧ vi = .int .i64 k ∧ Inv w w1.heap.size (badAt sm se s2) wr) (fun vi _ => 13 - (RowKit.intOf vi).toNat)
  case atStart => exact ⟨0, by omega, rfl, Inv.start h1 _ _ fun j hj => by
    match j, hj with
    | 0, _ | 1, _ | 2, _ | 3, _ | 4, _ | 5, _ | 6, _ | 7, _ | 8, _ | 9, _ | 10, _ | 11, _ | 12, _ => rfl⟩
  case round =>
    obtain ⟨k, hk, rfl, hI⟩ := hrel
    have hon := hI.on
    by_cases hk13 : k < 13
    · have hcell := hI.cell k hk13
      have hq := hbad k hk13
      generalize badAt sm se s2 k = tk at hcell hq
      go_wp2_with (first
        | (go_at_call 20; with_reducible refine (hq _ (On.env (by assumption))).mono ?_; rintro e w2 ⟨⟨te, pe, rfl⟩, hb⟩; have hI2 := hI.step hb; clear hb))
      all_goals first | (exfalso; omega) | skip
      go_roundw
      case rel => exact ⟨k + 1, by omega, by go_num, hI2⟩
      case measure => simp [RowKit.intOf]; omega
    · obtain rfl : k = 13 := by omega
      go_wp2_with (first
        | (go_at_call 20; with_reducible refine (hg _ (On.env (by assumption))).mono ?_; rintro e w3 ⟨rfl, hb⟩; have h3 := On.step (by assumption) hb; clear hb)
        | (go_at_call 21; with_reducible refine (hgt _ (On.env (by assumption))).mono ?_; rintro e w3 ⟨rfl, hb⟩; have h3 := On.step (by assumption) hb; clear hb))
      go_ret
      exact ⟨rfl, On.old (by assumption)⟩
end Go.Proofs.YtomjoiaahalahaaDoor
