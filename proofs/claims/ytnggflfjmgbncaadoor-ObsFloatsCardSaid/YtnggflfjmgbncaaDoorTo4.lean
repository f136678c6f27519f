/- obs.read at a text without brackets and spaces; obs.Parse. -/
import Derived.Test.YtnggflfjmgbncaaDoorTo3
import Derived.LoopTactic
namespace Go.Proofs.YtnggflfjmgbncaaDoor
open Go Go.RowKit Go.Sort Go.Lib Ieee Ev.Fl
set_option maxRecDepth 100000

/-- A result that lies in a block, and one beside it. -/
theorem results_obs {fn : Func} {p u : Tmp} (h : fn.results = #[.cell p 42, .tmp u]) (tmps : Array Value) (w : World) (g : Nat) (a0 a1 a2 a3 : Value) (hp : tmps.getD p undef = .pointer (some ⟨g, 0, none⟩)) (hg : w.heap[g]? = some (.cells #[a0, a1, a2, a3] 42 (0, 0))) :
    (results fn tmps).run Tryd.prog w = .ok (.tuple #[.agg #[a0, a1, a2, a3], tmps.getD u undef]) w := by
  rw [results_cell_tmp h, hp]
  have hl := run_loadVar_row w g 42 42 #[a0, a1, a2, a3] (0, 0) _ hg Tryd.underlying42 rfl (by kernel_rfl)
  show ((loadVar 42 ⟨g, 0, none⟩).run Tryd.prog w).andThen _ = _
  rw [hl]
  rfl

set_option maxHeartbeats 2000000 in
theorem read_leaf (s : ByteArray) (k x : Int) (hp : 0 < s.size) (hs : s.size ≤ 1000) (h1 : ∀ i (_ : i < s.size), ¬ (s[i].toNat : Int) = 32) (h2 : ∀ i (_ : i < s.size), ¬ (s[i].toNat : Int) = 40) (h3 : ∀ i (_ : i < s.size), ¬ (s[i].toNat : Int) = 41)
    (he : s.extract 0 s.size = s) (hw : Gives 59 #[.string s] (.agg #[.int .i64 k, .int .i64 x, .string ⟨#[]⟩, .slice none 0 0])) :
    Gives 40 #[.string s, .int .i64 0, .int .i64 0] (.tuple #[.agg #[.int .i64 k, .int .i64 x, .string ⟨#[]⟩, .slice none 0 0], .int .i64 s.size]) := by
  intro w hE
  have g0 := h2 0 hp
  have hne : ¬ s = ByteArray.empty := fun e => by rw [e] at hp; exact absurd hp (by decide)
  have hb0 := below_alloc w (Obj.cells #[.int .i64 0, .int .i64 0, .string ⟨#[]⟩, .slice none 0 0] 42)
  have hE0 := hE.below hb0
  have hk0 : (w.alloc (Obj.cells #[.int .i64 0, .int .i64 0, .string ⟨#[]⟩, .slice none 0 0] 42)).heap[w.heap.size]? = some (.cells #[.int .i64 0, .int .i64 0, .string ⟨#[]⟩, .slice none 0 0] 42 (0, 0)) := heap_alloc_new w _
  have hs0 : (w.alloc (Obj.cells #[.int .i64 0, .int .i64 0, .string ⟨#[]⟩, .slice none 0 0] 42)).heap.size = w.heap.size + 1 := by simp
  go_enter Tryd.func40, Tryd.ntmps40
  go_wp2
  generalize w.alloc (Obj.cells #[.int .i64 0, .int .i64 0, .string ⟨#[]⟩, .slice none 0 0] 42) = w1 at hb0 hE0 hk0 hs0 ⊢
  go_loop [1] (fun a => ∃ i : Nat, a = .int .i64 (i : Int) ∧ i ≤ s.size) (fun a => s.size - (RowKit.intOf a).toNat)
  case atStart => exact ⟨0, rfl, Nat.zero_le _⟩
  case round =>
    obtain ⟨i, rfl, hi⟩ := hrel
    by_cases hlt : i < s.size
    · have f1 := h1 i hlt
      have f2 := h2 i hlt
      have f3 := h3 i hlt
      have e1 : ((s[i].toNat : Int) != 32) = true := bne_iff_ne.2 f1
      have e2 : ((s[i].toNat : Int) != 40) = true := bne_iff_ne.2 f2
      have e3 : ((s[i].toNat : Int) != 41) = true := bne_iff_ne.2 f3
      clear h1 h2 h3 hw hk0 hs0 hE0 hb0 he g0 hne
      go_wp2_with fail
      go_round
      case rel => exact ⟨i + 1, rfl, by omega⟩
      case measure => simp [RowKit.intOf]; omega
    · obtain rfl : i = s.size := by omega
      go_wp2_with fail
      go_at_call 59
      refine (hw _ hE0).mono ?_
      rintro e w2 ⟨rfl, hb2⟩
      have hk2 : w2.heap[w.heap.size]? = some (.cells #[.int .i64 0, .int .i64 0, .string ⟨#[]⟩, .slice none 0 0] 42 (0, 0)) := by
        rw [hb2.block _ (by omega)]
        exact hk0
      obtain ⟨c0, c1, c2, c3, cf⟩ := obs_cells hk2
      clear h1 h2 h3
      go_wp2
      obtain ⟨q1, q2⟩ := stored4 (B := w.heap.size) (.int .i64 k) (.int .i64 x) (.string ⟨#[]⟩) (.slice none 0 0) (Nat.le_refl _) hk2
      refine bodyPost_ret (results_obs rfl _ _ _ _ _ _ _ rfl q1) rfl ⟨rfl, ?_⟩
      exact (hb0.trans (hb2.mono hb0.size)).trans q2
end Go.Proofs.YtnggflfjmgbncaaDoor
