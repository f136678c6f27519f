/- obs.Parse at the text of an observation without parts. -/
import Derived.Test.YtnggflfjmgbncaaDoorTo5
namespace Go.Proofs.YtnggflfjmgbncaaDoor
open Go Go.RowKit Go.Sort Go.Lib Ieee Ev.Fl
set_option maxRecDepth 100000

theorem parse_leaf (s : ByteArray) (k x : Int) (hr : Gives 40 #[.string s, .int .i64 0, .int .i64 0] (.tuple #[.agg #[.int .i64 k, .int .i64 x, .string ⟨#[]⟩, .slice none 0 0], .int .i64 s.size]))
    (hv : Gives 25 #[.agg #[.int .i64 k, .int .i64 x, .string ⟨#[]⟩, .slice none 0 0]] (.bool true)) (ht : Gives 23 #[.agg #[.int .i64 k, .int .i64 x, .string ⟨#[]⟩, .slice none 0 0]] (.string s)) :
    Gives 22 #[.string s] (.tuple #[.agg #[.int .i64 k, .int .i64 x, .string ⟨#[]⟩, .slice none 0 0], .nilIface]) := by
  intro w hE
  have hself : (s.toList == s.toList) = true := beq_self_eq_true _
  go_enter Tryd.func22, Tryd.ntmps22
  go_wp2_with fail
  have hb0 := below_alloc w (Obj.cells #[.int .i64 0, .int .i64 0, .string ⟨#[]⟩, .slice none 0 0] 42)
  have hE0 := hE.below hb0
  have hk0 : (w.alloc (Obj.cells #[.int .i64 0, .int .i64 0, .string ⟨#[]⟩, .slice none 0 0] 42)).heap[w.heap.size]? = some (Obj.cells #[.int .i64 0, .int .i64 0, .string ⟨#[]⟩, .slice none 0 0] 42 (0, 0)) := heap_alloc_new w _
  have hs0 : (w.alloc (Obj.cells #[.int .i64 0, .int .i64 0, .string ⟨#[]⟩, .slice none 0 0] 42)).heap.size = w.heap.size + 1 := by simp
  go_at_call 40
  refine (hr _ hE0).mono ?_
  rintro e w1 ⟨rfl, hb1⟩
  have hk1 : w1.heap[w.heap.size]? = some (Obj.cells #[.int .i64 0, .int .i64 0, .string ⟨#[]⟩, .slice none 0 0] 42 (0, 0)) := by
    rw [hb1.block _ (by omega)]
    exact hk0
  have hs1 : w.heap.size + 1 ≤ w1.heap.size := by have := hb1.size; omega
  have hbb1 : Below w.heap.size w w1 := hb0.trans (hb1.mono hb0.size)
  clear hb0 hE0 hk0 hs0 hb1
  go_wp2_with fail
  have hb2 := below_alloc w1 (Obj.cells #[.int .i64 k, .int .i64 x, .string ⟨#[]⟩, .slice none 0 0] 42)
  have q2 : (w1.alloc (Obj.cells #[.int .i64 k, .int .i64 x, .string ⟨#[]⟩, .slice none 0 0] 42)).heap[w1.heap.size]? = some (Obj.cells #[.int .i64 k, .int .i64 x, .string ⟨#[]⟩, .slice none 0 0] 42 (0, 0)) := heap_alloc_new w1 _
  have r2 : (w1.alloc (Obj.cells #[.int .i64 k, .int .i64 x, .string ⟨#[]⟩, .slice none 0 0] 42)).heap[w.heap.size]? = some (Obj.cells #[.int .i64 0, .int .i64 0, .string ⟨#[]⟩, .slice none 0 0] 42 (0, 0)) := (Lib.alloc_old w1 (Obj.cells #[.int .i64 k, .int .i64 x, .string ⟨#[]⟩, .slice none 0 0] 42) w.heap.size (by omega)).trans hk1
  have hs2 : (w1.alloc (Obj.cells #[.int .i64 k, .int .i64 x, .string ⟨#[]⟩, .slice none 0 0] 42)).heap.size = w1.heap.size + 1 := by simp
  have hbb2 : Below w.heap.size w (w1.alloc (Obj.cells #[.int .i64 k, .int .i64 x, .string ⟨#[]⟩, .slice none 0 0] 42)) := hbb1.trans (hb2.mono (by omega))
  generalize w1.alloc (Obj.cells #[.int .i64 k, .int .i64 x, .string ⟨#[]⟩, .slice none 0 0] 42) = w2 at q2 r2 hs2 hbb2 ⊢
  clear hb2 hk1
  go_at_call 25
  refine (hv _ (hE.below hbb2)).mono ?_
  rintro e w3 ⟨rfl, hb3⟩
  have q3 : w3.heap[w1.heap.size]? = some (Obj.cells #[.int .i64 k, .int .i64 x, .string ⟨#[]⟩, .slice none 0 0] 42 (0, 0)) := (hb3.block _ (by omega)).trans q2
  have r3 : w3.heap[w.heap.size]? = some (Obj.cells #[.int .i64 0, .int .i64 0, .string ⟨#[]⟩, .slice none 0 0] 42 (0, 0)) := (hb3.block _ (by omega)).trans r2
  have hs3 := hb3.size
  have hbb3 : Below w.heap.size w w3 := hbb2.trans (hb3.mono (by omega))
  clear q2 r2 hb3
  obtain ⟨c0, c1, c2, c3, cf⟩ := obs_cells q3
  go_wp2_with fail
  go_at_call 23
  refine (ht _ (hE.below hbb3)).mono ?_
  rintro e w4 ⟨rfl, hb4⟩
  have q4 : w4.heap[w1.heap.size]? = some (Obj.cells #[.int .i64 k, .int .i64 x, .string ⟨#[]⟩, .slice none 0 0] 42 (0, 0)) := (hb4.block _ (by omega)).trans q3
  have r4 : w4.heap[w.heap.size]? = some (Obj.cells #[.int .i64 0, .int .i64 0, .string ⟨#[]⟩, .slice none 0 0] 42 (0, 0)) := (hb4.block _ (by omega)).trans r3
  have hbb4 : Below w.heap.size w w4 := hbb3.trans (hb4.mono (by omega))
  clear q3 r3 hb4 c0 c1 c2 c3 cf
  obtain ⟨c0, c1, c2, c3, cf⟩ := obs_cells q4
  obtain ⟨d0, d1, d2, d3, df⟩ := obs_cells r4
  go_wp2
  obtain ⟨f1, f2⟩ := stored4 (B := w.heap.size) (.int .i64 k) (.int .i64 x) (.string ⟨#[]⟩) (.slice none 0 0) (Nat.le_refl _) r4
  refine bodyPost_ret (results_obs rfl _ _ _ _ _ _ _ rfl f1) rfl ⟨rfl, hbb4.trans f2⟩
end Go.Proofs.YtnggflfjmgbncaaDoor
