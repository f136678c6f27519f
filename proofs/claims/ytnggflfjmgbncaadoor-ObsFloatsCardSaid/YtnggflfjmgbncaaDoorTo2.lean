/- obs.Text at a number, at a float. -/
import Derived.Test.YtnggflfjmgbncaaDoorTo1
namespace Go.Proofs.YtnggflfjmgbncaaDoor
open Go Go.RowKit Go.Sort Go.Lib Ieee Ev.Fl
set_option maxRecDepth 100000

theorem fresh_builder {B b : Nat} {w : World} (hB : B ≤ b) (hb : w.heap[b]? = some (.cells #[.pointer none, .slice none 0 0] 70 (0, 0))) : Lib.BuilderAt 70 5 B b (.pointer none) [] w :=
  ⟨hB, _, hb, World.ownsRow_nil _ _ _ _, by simp [Value.ownBlock]⟩

theorem below_alloc (w : World) (o : Obj) : Below w.heap.size w (w.alloc o) := (Below.refl _ w).alloc (Nat.le_refl _) o


theorem write_int (n : Int) (t : ByteArray) (ht : t.size ≤ 1000) (hc : ∀ w, Env w → Calls Tryd.prog 61 #[.int .i64 n] w fun e w' => e = .returned (.string t) ∧ Below w.heap.size w w')
    (B b : Nat) (w : World) (hB : B ≤ b) (hBw : B ≤ w.heap.size) (hE : Env w) (hb : w.heap[b]? = some (.cells #[.pointer none, .slice none 0 0] 70 (0, 0))) :
    Calls Tryd.prog 41 #[.pointer (some ⟨b, 0, none⟩), .agg #[.int .i64 1, .int .i64 n, .string ⟨#[]⟩, .slice none 0 0]] w fun e w' => e = .returned (.tuple #[]) ∧ Lib.BuilderAt 70 5 B b (.pointer (some ⟨b, 0, none⟩)) (Lib.strCells t) w' ∧ Below B w w' := by
  have hlt : b < w.heap.size := (Array.getElem?_eq_some_iff.1 hb).1
  go_enter Tryd.func41, Tryd.ntmps41
  go_wp2_with fail
  have hb1 := below_alloc w (Obj.cells #[.int .i64 1, .int .i64 n, .string ⟨#[]⟩, .slice none 0 0] 42)
  have hE1 := hE.below hb1
  go_at_call 61
  refine (hc _ hE1).mono ?_
  rintro e w2 ⟨rfl, hb2⟩
  have hbb : Below B w w2 := (hb1.mono hBw).trans (hb2.mono (Nat.le_trans hBw hb1.size))
  have hk : w2.heap[b]? = some (.cells #[.pointer none, .slice none 0 0] 70 (0, 0)) := by
    rw [hb2.block b (Nat.lt_of_lt_of_le hlt hb1.size), hb1.block b hlt]
    exact hb
  go_wp2_with (go_at_call 60; refine (writeString B b t _ (fresh_builder hB hk) (by omega) (Nat.le_trans hBw hbb.size)).mono ?_; rintro e w3 ⟨rfl, h3, hb3⟩)
  go_end0
  exact ⟨rfl, h3, hbb.trans hb3⟩

theorem text_int (n : Int) (t : ByteArray) (ht : t.size ≤ 1000) (hc : ∀ w, Env w → Calls Tryd.prog 61 #[.int .i64 n] w fun e w' => e = .returned (.string t) ∧ Below w.heap.size w w') (w : World) (hE : Env w) :
    Calls Tryd.prog 23 #[.agg #[.int .i64 1, .int .i64 n, .string ⟨#[]⟩, .slice none 0 0]] w fun e w' => e = .returned (.string t) ∧ Below w.heap.size w w' := by
  go_enter Tryd.func23, Tryd.ntmps23
  go_wp2_with fail
  generalize hw1 : w.alloc (Obj.cells #[.int .i64 1, .int .i64 n, .string ⟨#[]⟩, .slice none 0 0] 42) = w1
  have hb1 : Below w.heap.size w w1 := hw1 ▸ below_alloc w _
  have hs1 : w1.heap.size = w.heap.size + 1 := by rw [← hw1]; simp
  have hb2 := below_alloc w1 (Obj.cells #[.pointer none, .slice none 0 0] 70)
  have hk : (w1.alloc (Obj.cells #[.pointer none, .slice none 0 0] 70)).heap[w.heap.size + 1]? = some (.cells #[.pointer none, .slice none 0 0] 70 (0, 0)) := by
    rw [← hs1]
    exact heap_alloc_new w1 _
  have hb3 : Below w.heap.size w (w1.alloc (Obj.cells #[.pointer none, .slice none 0 0] 70)) := hb1.trans (hb2.mono hb1.size)
  have hE3 := hE.below hb3
  generalize w1.alloc (Obj.cells #[.pointer none, .slice none 0 0] 70) = w3 at hk hb3 hE3 ⊢
  clear hb2
  go_at_call 41
  refine (write_int n t ht hc w.heap.size (w.heap.size + 1) w3 (Nat.le_succ _) hb3.size hE3 hk).mono ?_
  rintro e w4 ⟨rfl, h4, hb4⟩
  have hb5 := hb3.trans hb4
  go_wp2_with (go_at_call 42; refine (Tryd.Builder_String_any w.heap.size (w.heap.size + 1) t.data.toList _ (.inr h4) hb5.size).mono ?_; rintro e w6 ⟨rfl, hb6⟩)
  go_ret
  exact ⟨rfl, hb5.trans hb6⟩

theorem write_flo (n : Int) (u : Int) (t : ByteArray) (hu : IntKind.u64.wrap n = u) (ht : t.size ≤ 1000) (hc : ∀ w, Env w → Calls Tryd.prog 19 #[.int .u64 u] w fun e w' => e = .returned (.string t) ∧ Below w.heap.size w w')
    (B b : Nat) (w : World) (hB : B ≤ b) (hBw : B ≤ w.heap.size) (hE : Env w) (hb : w.heap[b]? = some (.cells #[.pointer none, .slice none 0 0] 70 (0, 0))) :
    Calls Tryd.prog 41 #[.pointer (some ⟨b, 0, none⟩), .agg #[.int .i64 2, .int .i64 n, .string ⟨#[]⟩, .slice none 0 0]] w fun e w' => e = .returned (.tuple #[]) ∧ Lib.BuilderAt 70 5 B b (.pointer (some ⟨b, 0, none⟩)) (Lib.strCells t) w' ∧ Below B w w' := by
  have hlt : b < w.heap.size := (Array.getElem?_eq_some_iff.1 hb).1
  go_enter Tryd.func41, Tryd.ntmps41
  go_wp2_with fail
  have hb1 := below_alloc w (Obj.cells #[.int .i64 2, .int .i64 n, .string ⟨#[]⟩, .slice none 0 0] 42)
  have hE1 := hE.below hb1
  go_at_call 19
  refine (hc _ hE1).mono ?_
  rintro e w2 ⟨rfl, hb2⟩
  have hbb : Below B w w2 := (hb1.mono hBw).trans (hb2.mono (Nat.le_trans hBw hb1.size))
  have hk : w2.heap[b]? = some (.cells #[.pointer none, .slice none 0 0] 70 (0, 0)) := by
    rw [hb2.block b (Nat.lt_of_lt_of_le hlt hb1.size), hb1.block b hlt]
    exact hb
  go_wp2_with (go_at_call 60; refine (writeString B b t _ (fresh_builder hB hk) (by omega) (Nat.le_trans hBw hbb.size)).mono ?_; rintro e w3 ⟨rfl, h3, hb3⟩)
  go_end0
  exact ⟨rfl, h3, hbb.trans hb3⟩

theorem text_flo (n : Int) (u : Int) (t : ByteArray) (hu : IntKind.u64.wrap n = u) (ht : t.size ≤ 1000) (hc : ∀ w, Env w → Calls Tryd.prog 19 #[.int .u64 u] w fun e w' => e = .returned (.string t) ∧ Below w.heap.size w w') (w : World) (hE : Env w) :
    Calls Tryd.prog 23 #[.agg #[.int .i64 2, .int .i64 n, .string ⟨#[]⟩, .slice none 0 0]] w fun e w' => e = .returned (.string t) ∧ Below w.heap.size w w' := by
  go_enter Tryd.func23, Tryd.ntmps23
  go_wp2_with fail
  generalize hw1 : w.alloc (Obj.cells #[.int .i64 2, .int .i64 n, .string ⟨#[]⟩, .slice none 0 0] 42) = w1
  have hb1 : Below w.heap.size w w1 := hw1 ▸ below_alloc w _
  have hs1 : w1.heap.size = w.heap.size + 1 := by rw [← hw1]; simp
  have hb2 := below_alloc w1 (Obj.cells #[.pointer none, .slice none 0 0] 70)
  have hk : (w1.alloc (Obj.cells #[.pointer none, .slice none 0 0] 70)).heap[w.heap.size + 1]? = some (.cells #[.pointer none, .slice none 0 0] 70 (0, 0)) := by
    rw [← hs1]
    exact heap_alloc_new w1 _
  have hb3 : Below w.heap.size w (w1.alloc (Obj.cells #[.pointer none, .slice none 0 0] 70)) := hb1.trans (hb2.mono hb1.size)
  have hE3 := hE.below hb3
  generalize w1.alloc (Obj.cells #[.pointer none, .slice none 0 0] 70) = w3 at hk hb3 hE3 ⊢
  clear hb2
  go_at_call 41
  refine (write_flo n u t hu ht hc w.heap.size (w.heap.size + 1) w3 (Nat.le_succ _) hb3.size hE3 hk).mono ?_
  rintro e w4 ⟨rfl, h4, hb4⟩
  have hb5 := hb3.trans hb4
  go_wp2_with (go_at_call 42; refine (Tryd.Builder_String_any w.heap.size (w.heap.size + 1) t.data.toList _ (.inr h4) hb5.size).mono ?_; rintro e w6 ⟨rfl, hb6⟩)
  go_ret
  exact ⟨rfl, hb5.trans hb6⟩
end Go.Proofs.YtnggflfjmgbncaaDoor
