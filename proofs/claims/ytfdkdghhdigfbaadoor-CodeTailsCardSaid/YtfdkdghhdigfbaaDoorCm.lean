/- The words that reckon: walked. -/
import Derived.Test.YtfdkdghhdigfbaaDoorCl
import Derived.Test.YtfdkdghhdigfbaaDoorShelf
namespace Go.Proofs.YtfdkdghhdigfbaaDoor
open Go Go.RowKit
set_option maxRecDepth 100000

def primsL : List ByteArray := [⟨#[43]⟩, ⟨#[45]⟩, ⟨#[42]⟩, ⟨#[100, 105, 118]⟩, ⟨#[109, 111, 100]⟩, ⟨#[60]⟩, ⟨#[61]⟩, ⟨#[102, 43]⟩, ⟨#[102, 45]⟩, ⟨#[102, 42]⟩, ⟨#[102, 47]⟩, ⟨#[102, 60]⟩, ⟨#[102, 61]⟩]
def primsF (s : ByteArray) : Int :=
  if s = ⟨#[102, 108, 111, 97, 116]⟩ then 1 else if s = ⟨#[119, 104, 111, 108, 101]⟩ then 1 else if Lib.containsS primsL s = true then 2 else 0

set_option maxHeartbeats 8000000 in
theorem prims_call (s : ByteArray) (w : World) : Calls Tryd.prog 29 #[.string s] w fun e w' => e = .returned (.int .i64 (primsF s)) ∧ Below w.heap.size w w' := by
  go_enter Tryd.func29, Tryd.ntmps29
  by_cases h1 : s = ⟨#[102, 108, 111, 97, 116]⟩
  · subst h1
    go_wp2
    go_ret
    exact ⟨by simp [primsF], Below.refl _ w⟩
  by_cases h2 : s = ⟨#[119, 104, 111, 108, 101]⟩
  · subst h2
    go_wp2
    go_ret
    exact ⟨by simp [primsF], Below.refl _ w⟩
  · have hB : Below w.heap.size w (w.alloc (Obj.cells #[.string ⟨#[43]⟩, .string ⟨#[45]⟩, .string ⟨#[42]⟩, .string ⟨#[100, 105, 118]⟩, .string ⟨#[109, 111, 100]⟩, .string ⟨#[60]⟩, .string ⟨#[61]⟩, .string ⟨#[102, 43]⟩, .string ⟨#[102, 45]⟩, .string ⟨#[102, 42]⟩, .string ⟨#[102, 47]⟩, .string ⟨#[102, 60]⟩, .string ⟨#[102, 61]⟩] 9)) := (Below.refl _ w).alloc (Nat.le_refl _) _
    have hnw := heap_alloc_new w (Obj.cells #[.string ⟨#[43]⟩, .string ⟨#[45]⟩, .string ⟨#[42]⟩, .string ⟨#[100, 105, 118]⟩, .string ⟨#[109, 111, 100]⟩, .string ⟨#[60]⟩, .string ⟨#[61]⟩, .string ⟨#[102, 43]⟩, .string ⟨#[102, 45]⟩, .string ⟨#[102, 42]⟩, .string ⟨#[102, 47]⟩, .string ⟨#[102, 60]⟩, .string ⟨#[102, 61]⟩] 9)
    have hc : ∀ j, j < primsL.length → (w.alloc (Obj.cells #[.string ⟨#[43]⟩, .string ⟨#[45]⟩, .string ⟨#[42]⟩, .string ⟨#[100, 105, 118]⟩, .string ⟨#[109, 111, 100]⟩, .string ⟨#[60]⟩, .string ⟨#[61]⟩, .string ⟨#[102, 43]⟩, .string ⟨#[102, 45]⟩, .string ⟨#[102, 42]⟩, .string ⟨#[102, 47]⟩, .string ⟨#[102, 60]⟩, .string ⟨#[102, 61]⟩] 9)).cell? ⟨w.heap.size, 0 + j, none⟩ = some (.string (primsL.getD j ByteArray.empty)) := by
      intro j hj
      rw [Lib.cell_of_heap hnw, Nat.zero_add]
      have hj' : j < 13 := hj
      rcases j with _ | _ | _ | _ | _ | _ | _ | _ | _ | _ | _ | _ | _ | j
      all_goals first | rfl | omega
    have hcall := Tryd.slices_Contains_string w.heap.size 0 13 13 primsL s _ (by decide) (by decide) hc
    have e : primsL.take 13 = primsL := rfl
    rw [e] at hcall
    replace hcall := Veil.mk hcall
    clear hc hnw e
    have g1 : ¬ s.toList = [102, 108, 111, 97, 116] := fun h => h1 (ByteArray.ext (Array.toList_inj.mp (by rw [← ByteArray.toList_eq, h])))
    have g2 : ¬ s.toList = [119, 104, 111, 108, 101] := fun h => h2 (ByteArray.ext (Array.toList_inj.mp (by rw [← ByteArray.toList_eq, h])))
    go_wp2_with (go_at_call 30; refine hcall.out.mono ?_; rintro e w' ⟨rfl, rfl⟩)
    all_goals
      first
        | (exfalso; simp_all; done)
        | (go_ret
           refine ⟨?_, hB⟩
           simp_all [primsF])
end Go.Proofs.YtfdkdghhdigfbaaDoor
