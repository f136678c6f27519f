/- flo.Parse, flo.Canon, the chapter's example; the law FloBack, walked. -/
import Derived.Test.YtnggflfjmgbncaaDoorTr
import Derived.RegionTactic
import Derived.ChangeAlike
namespace Go.Proofs.YtnggflfjmgbncaaDoor
open Go Go.RowKit Go.Sort Go.Lib Ieee Ev.Fl
set_option maxRecDepth 100000

theorem canon_t (a : Nat) (h : (double.order a a != some .eq) = true) (w : World) : Calls Tryd.prog 15 #[.int .u64 (a : Int)] w fun e w' => e = .returned (.int .u64 9221120237041090560) ∧ w' = w := by
  go_enter Tryd.func15, Tryd.ntmps15
  go_wp2_with (first
    | (go_at_call 27; refine (of a _).mono ?_; rintro e w' ⟨rfl, rfl⟩)
    | (go_at_call 30; refine (isNaN a _).mono ?_; rintro e w' ⟨rfl, rfl⟩))
  go_ret
  exact ⟨rfl, rfl⟩
theorem canon_f (a : Nat) (h : (double.order a a != some .eq) = false) (w : World) : Calls Tryd.prog 15 #[.int .u64 (a : Int)] w fun e w' => e = .returned (.int .u64 (a : Int)) ∧ w' = w := by
  go_enter Tryd.func15, Tryd.ntmps15
  go_wp2_with (first
    | (go_at_call 27; refine (of a _).mono ?_; rintro e w' ⟨rfl, rfl⟩)
    | (go_at_call 30; refine (isNaN a _).mono ?_; rintro e w' ⟨rfl, rfl⟩))
  go_ret
  exact ⟨rfl, rfl⟩
theorem canon_call (a : Nat) (w : World) : Calls Tryd.prog 15 #[.int .u64 (a : Int)] w fun e w' => e = .returned (.int .u64 (canon a : Int)) ∧ w' = w := by
  unfold canon
  cases h : isn a with
  | true => exact canon_t a ((isn_text a).trans h) w
  | false => exact canon_f a ((isn_text a).trans h) w

theorem text_call (a : Nat) (ha : a < 18446744073709551616) (w : World) (hE : Env w) : Calls Tryd.prog 19 #[.int .u64 (a : Int)] w fun e w' => e = .returned (.string (textOf a)) ∧ Below w.heap.size w w' := text a ha w hE.t2 hE.tp

theorem parse_good_walk (s t : ByteArray) (n : Int) (hv : ∀ w, Env w → Calls Tryd.prog 31 #[.string s] w fun e w' => e = .returned (.int .u64 n) ∧ Below w.heap.size w w')
    (ht : ∀ w, Env w → Calls Tryd.prog 19 #[.int .u64 n] w fun e w' => e = .returned (.string t) ∧ Below w.heap.size w w') (h : (t.toList == s.toList) = true) (w : World) (hE : Env w) :
    Calls Tryd.prog 12 #[.string s] w fun e w' => e = .returned (.tuple #[.int .u64 n, .nilIface]) ∧ Below w.heap.size w w' := by
  go_enter Tryd.func12, Tryd.ntmps12
  go_wp2_with (first
    | (go_at_call 31; refine (hv _ hE).mono ?_; rintro e w1 ⟨rfl, hb1⟩; have hE1 := hE.below hb1)
    | (go_at_call 19; refine (ht _ hE1).mono ?_; rintro e w2 ⟨rfl, hb2⟩))
  go_ret2
  exact ⟨rfl, hb1.trans (hb2.mono hb1.size)⟩
theorem parse_bad_walk (s t : ByteArray) (n : Int) (hv : ∀ w, Env w → Calls Tryd.prog 31 #[.string s] w fun e w' => e = .returned (.int .u64 n) ∧ Below w.heap.size w w')
    (ht : ∀ w, Env w → Calls Tryd.prog 19 #[.int .u64 n] w fun e w' => e = .returned (.string t) ∧ Below w.heap.size w w') (h : (t.toList == s.toList) = false) (w : World) (hE : Env w) :
    Calls Tryd.prog 12 #[.string s] w fun e w' => (∃ te pe, e = .returned (.tuple #[.int .u64 0, .iface te pe])) ∧ Below w.heap.size w w' := by
  go_enter Tryd.func12, Tryd.ntmps12
  go_wp2_with (first
    | (go_at_call 31; refine (hv _ hE).mono ?_; rintro e w1 ⟨rfl, hb1⟩; have hE1 := hE.below hb1)
    | (go_at_call 19; refine (ht _ hE1).mono ?_; rintro e w2 ⟨rfl, hb2⟩; obtain ⟨te, pe, hc⟩ := (hE1.below hb2).c1))
  go_region
  go_wp2
  go_ret2
  exact ⟨⟨te, pe, rfl⟩, (hb1.trans (hb2.mono hb1.size)).drew⟩

theorem first_walk (hT : textOf 4609434218613702656 = ⟨#[51, 112, 45, 49]⟩) (w : World) (hE : Env w) : Calls Tryd.prog 5 #[] w fun e w' => e = .returned (.bool true) ∧ Below w.heap.size w w' := by
  have ht := text_call 4609434218613702656 (by decide)
  rw [hT] at ht
  have hb := bits64
  go_enter Tryd.func5, Tryd.ntmps5
  go_wp2_with (first
    | (go_at_call 19; refine (ht _ hE).mono ?_; rintro e w2 ⟨rfl, hb2⟩))
  go_ret
  exact ⟨rfl, hb2⟩
/-- The walk's world: the variables are there, what was there is as it was. -/
structure On (w0 w : World) : Prop where
  env : Env w
  old : Below w0.heap.size w0 w
theorem On.start {w : World} (h : Env w) : On w w := ⟨h, Below.refl _ _⟩
theorem On.step {w0 w w' : World} (h : On w0 w) (hb : Below w.heap.size w w') : On w0 w' := ⟨h.env.below hb, h.old.trans (hb.mono h.old.size)⟩

abbrev Gives (f : Nat) (args : Array Value) (v : Value) : Prop := ∀ w, Env w → Calls Tryd.prog f args w fun e w' => e = .returned v ∧ Below w.heap.size w w'
abbrev Fails (s : ByteArray) : Prop := ∀ w, Env w → Calls Tryd.prog 12 #[.string s] w fun e w' => (∃ te pe, e = .returned (.tuple #[.int .u64 0, .iface te pe])) ∧ Below w.heap.size w w'

end Go.Proofs.YtnggflfjmgbncaaDoor
