/- obs.Valid, obs.Same at observations without parts. -/
import Derived.Test.YtnggflfjmgbncaaDoorTo4
import Derived.Deep.QuietTactic
import Derived.BigQuiet
namespace Go.Proofs.YtnggflfjmgbncaaDoor
open Go Go.RowKit Go.Sort Go.Lib Ieee Ev.Fl
set_option maxRecDepth 100000

theorem fits_int (n : Int) (b : Nat) (w : World) (hb : w.heap[b]? = some (.cells #[.int .i64 20000] 3 (0, 0))) :
    Calls Tryd.prog 44 #[.agg #[.int .i64 1, .int .i64 n, .string ⟨#[]⟩, .slice none 0 0], .int .i64 0, .pointer (some ⟨b, 0, none⟩)] w fun e w' => e = .returned (.bool true) ∧ Below b w w' := by
  have hlt : b < w.heap.size := (Array.getElem?_eq_some_iff.1 hb).1
  have n0 : ¬ b = w.heap.size := by omega
  have n1 : ¬ b = w.heap.size + 1 := by omega
  have n2 : ¬ b = w.heap.size + 1 + 1 := by omega
  have m0 : ¬ w.heap.size = b := by omega
  have m1 : ¬ w.heap.size + 1 = b := by omega
  have m2 : ¬ w.heap.size + 1 + 1 = b := by omega
  have hk : (((w.alloc (Obj.cells #[.int .i64 1, .int .i64 n, .string ⟨#[]⟩, .slice none 0 0] 42)).alloc (Obj.cells #[.int .i64 0] 3)).alloc (Obj.cells #[.pointer (some ⟨b, 0, none⟩)] 75)).heap[b]? = some (.cells #[.int .i64 20000] 3 (0, 0)) := by
    rw [Lib.alloc_old _ _ _ (by simp; omega), Lib.alloc_old _ _ _ (by simp; omega), Lib.alloc_old _ _ _ hlt]
    exact hb
  have hbb : Below b w (((w.alloc (Obj.cells #[.int .i64 1, .int .i64 n, .string ⟨#[]⟩, .slice none 0 0] 42)).alloc (Obj.cells #[.int .i64 0] 3)).alloc (Obj.cells #[.pointer (some ⟨b, 0, none⟩)] 75)) := (((Below.refl b w).alloc (by omega) _).alloc (by simp; omega) _).alloc (by simp; omega) _
  have c0 : (((w.alloc (Obj.cells #[.int .i64 1, .int .i64 n, .string ⟨#[]⟩, .slice none 0 0] 42)).alloc (Obj.cells #[.int .i64 0] 3)).alloc (Obj.cells #[.pointer (some ⟨b, 0, none⟩)] 75)).cell? ⟨b, 0, none⟩ = some (.int .i64 20000) := by rw [Lib.cell_of_heap hk]; rfl
  have cf := Lib.frozen_of_heap hk
  go_enter Tryd.func44, Tryd.ntmps44
  go_wp2
  go_ret
  exact ⟨rfl, hbb.setCell (p := ⟨b, 0, none⟩) (Nat.le_refl b) _⟩

theorem valid_int (n : Int) (w : World) :
    Calls Tryd.prog 25 #[.agg #[.int .i64 1, .int .i64 n, .string ⟨#[]⟩, .slice none 0 0]] w fun e w' => e = .returned (.bool true) ∧ Below w.heap.size w w' := by
  have hb2 : ∀ A B : Obj, Below w.heap.size w ((w.alloc A).alloc B) := fun A B => (below_alloc w A).alloc (by simp) B
  have hk : ∀ A B : Obj, ((w.alloc A).alloc B).heap[w.heap.size + 1]? = some B := fun A B => heap_alloc2_new w A B
  go_enter Tryd.func25, Tryd.ntmps25
  go_wp2_with (go_at_call 44; refine (fits_int n (w.heap.size + 1) _ (hk _ _)).mono ?_; rintro e w1 ⟨rfl, hb1⟩)
  go_ret
  exact ⟨rfl, (hb2 _ _).trans (hb1.mono (Nat.le_succ _))⟩

theorem fits_flo (n : Int) (u : Nat) (r : Bool) (b : Nat) (w : World) (hu : IntKind.u64.wrap n = (u : Int)) (hr : ((canon u : Int) == (u : Int)) = r) (hb : w.heap[b]? = some (.cells #[.int .i64 20000] 3 (0, 0))) :
    Calls Tryd.prog 44 #[.agg #[.int .i64 2, .int .i64 n, .string ⟨#[]⟩, .slice none 0 0], .int .i64 0, .pointer (some ⟨b, 0, none⟩)] w fun e w' => e = .returned (.bool r) ∧ Below b w w' := by
  have hlt : b < w.heap.size := (Array.getElem?_eq_some_iff.1 hb).1
  have n0 : ¬ b = w.heap.size := by omega
  have n1 : ¬ b = w.heap.size + 1 := by omega
  have n2 : ¬ b = w.heap.size + 1 + 1 := by omega
  have m0 : ¬ w.heap.size = b := by omega
  have m1 : ¬ w.heap.size + 1 = b := by omega
  have m2 : ¬ w.heap.size + 1 + 1 = b := by omega
  have hk : (((w.alloc (Obj.cells #[.int .i64 2, .int .i64 n, .string ⟨#[]⟩, .slice none 0 0] 42)).alloc (Obj.cells #[.int .i64 0] 3)).alloc (Obj.cells #[.pointer (some ⟨b, 0, none⟩)] 75)).heap[b]? = some (.cells #[.int .i64 20000] 3 (0, 0)) := by
    rw [Lib.alloc_old _ _ _ (by simp; omega), Lib.alloc_old _ _ _ (by simp; omega), Lib.alloc_old _ _ _ hlt]
    exact hb
  have hbb : Below b w (((w.alloc (Obj.cells #[.int .i64 2, .int .i64 n, .string ⟨#[]⟩, .slice none 0 0] 42)).alloc (Obj.cells #[.int .i64 0] 3)).alloc (Obj.cells #[.pointer (some ⟨b, 0, none⟩)] 75)) := (((Below.refl b w).alloc (by omega) _).alloc (by simp; omega) _).alloc (by simp; omega) _
  have c0 : (((w.alloc (Obj.cells #[.int .i64 2, .int .i64 n, .string ⟨#[]⟩, .slice none 0 0] 42)).alloc (Obj.cells #[.int .i64 0] 3)).alloc (Obj.cells #[.pointer (some ⟨b, 0, none⟩)] 75)).cell? ⟨b, 0, none⟩ = some (.int .i64 20000) := by rw [Lib.cell_of_heap hk]; rfl
  have cf := Lib.frozen_of_heap hk
  go_enter Tryd.func44, Tryd.ntmps44
  go_wp2
  go_quiet ((go_at_call 15; exact Calls.quiet_of_same (canon_call u _)))
  go_wp2
  go_ret
  exact ⟨rfl, (hbb.setCell (p := ⟨b, 0, none⟩) (Nat.le_refl b) _).trans ⟨rfl, rfl, rfl, Nat.le_refl _, fun _ _ => rfl⟩⟩

theorem valid_flo (n : Int) (u : Nat) (r : Bool) (w : World) (hu : IntKind.u64.wrap n = (u : Int)) (hr : ((canon u : Int) == (u : Int)) = r) :
    Calls Tryd.prog 25 #[.agg #[.int .i64 2, .int .i64 n, .string ⟨#[]⟩, .slice none 0 0]] w fun e w' => e = .returned (.bool r) ∧ Below w.heap.size w w' := by
  have hb2 : ∀ A B : Obj, Below w.heap.size w ((w.alloc A).alloc B) := fun A B => (below_alloc w A).alloc (by simp) B
  have hk : ∀ A B : Obj, ((w.alloc A).alloc B).heap[w.heap.size + 1]? = some B := fun A B => heap_alloc2_new w A B
  go_enter Tryd.func25, Tryd.ntmps25
  go_wp2_with (go_at_call 44; refine (fits_flo n u r (w.heap.size + 1) _ hu hr (hk _ _)).mono ?_; rintro e w1 ⟨rfl, hb1⟩)
  go_ret
  exact ⟨rfl, (hb2 _ _).trans (hb1.mono (Nat.le_succ _))⟩

theorem equal_nil (f : Value) (w : World) : Calls Tryd.prog 43 #[.slice none 0 0, .slice none 0 0, f] w fun e w' => e = .returned (.bool true) ∧ Below w.heap.size w w' := by
  go_enter Tryd.func43, Tryd.ntmps43
  go_wp2
  go_loop [17] (fun v => v = .int .i64 0) (fun _ => 0)
  case atStart => rfl
  case round =>
    obtain rfl := hrel
    go_wp2
    go_ret
    exact ⟨rfl, Below.refl _ _⟩

theorem same_leaf (k1 n1 k2 n2 : Int) (w : World) :
    Calls Tryd.prog 24 #[.agg #[.int .i64 k1, .int .i64 n1, .string ⟨#[]⟩, .slice none 0 0], .agg #[.int .i64 k2, .int .i64 n2, .string ⟨#[]⟩, .slice none 0 0]] w fun e w' => e = .returned (.bool (k1 == k2 && n1 == n2)) ∧ Below w.heap.size w w' := by
  have hbb : ∀ A B : Obj, Below w.heap.size w ((w.alloc A).alloc B) := fun A B => (below_alloc w A).alloc (by simp) B
  go_enter Tryd.func24, Tryd.ntmps24
  go_wp2_with (go_at_call 43; refine (equal_nil _ _).mono ?_; rintro e w1 ⟨rfl, hb1⟩)
  · go_ret
    rename_i h1 h2
    exact ⟨by rw [h1, h2]; simp, (hbb _ _).trans (hb1.mono (by simp; omega))⟩
  · go_ret
    rename_i h1 h2
    exact ⟨by rw [h1]; simp [h2], hbb _ _⟩
  · go_ret
    rename_i h1
    refine ⟨?_, hbb _ _⟩
    rw [beq_eq_false_iff_ne.2 h1]
    rfl
end Go.Proofs.YtnggflfjmgbncaaDoor
