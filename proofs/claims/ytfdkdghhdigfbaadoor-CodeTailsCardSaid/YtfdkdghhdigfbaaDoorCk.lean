/- Whether a tag may be, walked. -/
import Derived.Test.YtfdkdghhdigfbaaDoorCj
import Derived.Deep.QuietTactic
import Derived.BigQuiet
namespace Go.Proofs.YtfdkdghhdigfbaaDoor
open Go Go.RowKit
set_option maxRecDepth 100000

def endsF (op : Int) : Bool := decide (op = 9) || (decide (op = 10) || decide (op = 11))
theorem ends_call (op : Int) (w : World) : Calls Tryd.prog 23 #[.int .i64 op] w fun e w' => e = .returned (.bool (endsF op)) ∧ w' = w := by
  go_enter Tryd.func23, Tryd.ntmps23
  by_cases h1 : op = 9
  · subst h1
    go_wp2
    go_ret
    exact ⟨rfl, rfl⟩
  · by_cases h2 : op = 10
    · subst h2
      go_wp2
      go_ret
      exact ⟨rfl, rfl⟩
    · by_cases h3 : op = 11
      · subst h3
        go_wp2
        go_ret
        exact ⟨rfl, rfl⟩
      · go_wp2
        go_ret
        refine ⟨?_, rfl⟩
        simp [endsF, h1, h2, h3]

theorem cell_old {w : World} {o : Obj} {g j : Nat} (h : g < w.heap.size) : (w.alloc o).cell? ⟨g, j, none⟩ = w.cell? ⟨g, j, none⟩ := by
  unfold World.cell?
  rw [Lib.alloc_old _ _ _ h]
theorem below_drewN {B : Nat} {a w : World} (h : Below B a w) (n : Nat) : Below B a (w.drewN n) := ⟨h.os, h.tape, h.output, h.size, h.block⟩
theorem nameCases (s : ByteArray) : s = ⟨#[]⟩ ∨ ∃ c r, s = ⟨⟨c :: r⟩⟩ := by
  obtain ⟨⟨l⟩⟩ := s
  cases l with
  | nil => exact .inl rfl
  | cons c r => exact .inr ⟨c, r, rfl⟩

/-- What is asked of a tag. -/
def rightTagF (D : CodeD) (t : TagD) : Bool :=
  if t.kind = 1 then decide (t.fn = 0) && (match t.name.data.toList with | [] => false | c :: _ => decide (65 ≤ (c.toNat : Int)) && decide ((c.toNat : Int) ≤ 90))
  else if t.kind = 2 then decide (t.name = ⟨#[]⟩) && (match D.funs[t.fn.toNat]? with | none => false | some f => decide (f.params = t.n))
  else if t.kind = 3 then decide (t.name = ⟨#[]⟩) && (match D.funs[t.fn.toNat]? with | none => false | some f => decide (0 < t.n) && decide (t.n ≤ f.params))
  else if t.kind = 4 then decide (t.name = ⟨#[]⟩) && (decide (t.fn = 0) && decide (0 < t.n))
  else decide (t.name = ⟨#[]⟩) && (decide (t.fn = 0) && decide (t.n = 0))

def tagV (t : TagD) : Value := .agg #[.int .i64 t.kind, .string t.name, .int .i64 t.fn, .int .i64 t.n]

set_option maxHeartbeats 4000000 in
theorem rightTag_call (D : CodeD) (hF : FitD D) (t : TagD) (ht : FitTag t) (w : World) (C bc : Nat) (vt vf vi : Value) (hc : Cells w C bc D vt vf vi) (hC : C ≤ w.heap.size) :
    Calls Tryd.prog 22 #[.pointer (some ⟨bc, 0, none⟩), tagV t] w fun e w' => e = .returned (.bool (rightTagF D t)) ∧ Below w.heap.size w w' := by
  obtain ⟨kind, name, fn, nn⟩ := t
  have k0 := ht.kind
  have k2 := ht.fn
  have k3 := ht.n
  dsimp only at k0 k2 k3
  obtain ⟨fao, fcap, rfl, hcap, hf⟩ := hc.funs'
  have q1 := hc.c1
  have hlo := hc.lo
  have n2 := hF.fl
  have hnb := nameCases name
  obtain ⟨m, rfl⟩ := Int.eq_ofNat_of_zero_le k2.1
  obtain ⟨bt, hbt⟩ : ∃ b, w.heap.size = b := ⟨_, rfl⟩
  rw [hbt]
  have hB : Below bt w (w.alloc (Obj.cells #[.int .i64 kind, .string name, .int .i64 (m : Int), .int .i64 nn] 47)) := (Below.refl _ w).alloc (Nat.le_of_eq hbt.symm) _
  have hnw := heap_alloc_new w (Obj.cells #[.int .i64 kind, .string name, .int .i64 (m : Int), .int .i64 nn] 47)
  rw [hbt] at hnw
  obtain ⟨p0, p1, p2, p3, _⟩ := cells4 hnw
  have q1' := (cell_old (o := Obj.cells #[.int .i64 kind, .string name, .int .i64 (m : Int), .int .i64 nn] 47) (j := 1) (Nat.lt_of_lt_of_le hlo hC)).trans q1
  have hf' : ∀ j (h : j < D.funs.length), ∃ g, fao = some ⟨g, 0, none⟩ ∧ (w.alloc (Obj.cells #[.int .i64 kind, .string name, .int .i64 (m : Int), .int .i64 nn] 47)).cell? ⟨g, j * 3, none⟩ = some (.int .i64 D.funs[j].params) := fun j h => by
    obtain ⟨g, e, hg, h1, _⟩ := hf j h
    exact ⟨g, e, (cell_old (Nat.lt_of_lt_of_le hg hC)).trans h1⟩
  replace hf' := Veil.mk hf'
  rw [hbt] at hC
  clear hc hf
  unfold tagV
  go_enter Tryd.func22, Tryd.ntmps22
  go_upto_region 1 with fail
  generalize w.alloc (Obj.cells #[.int .i64 kind, .string name, .int .i64 (m : Int), .int .i64 nn] 47) = w0 at hB p0 p1 p2 p3 q1' hf' ⊢
  clear hnw
  clear q1
  by_cases h1 : kind = 1
  · subst h1
    by_cases h2 : m = 0
    · subst h2
      rcases hnb with rfl | ⟨c, r, rfl⟩
      · go_wp2
        go_ret
        exact ⟨by simp [rightTagF], hB⟩
      · have hc0 : (⟨⟨c :: r⟩⟩ : ByteArray)[0]'(Nat.succ_pos _) = c := rfl
        go_wp2
        all_goals
          go_ret
          refine ⟨?_, hB⟩
          simp_all [rightTagF]
          try omega
    · go_wp2
      go_ret
      exact ⟨by simp [rightTagF, h2], hB⟩
  by_cases h2 : kind = 2
  · subst h2
    rcases hnb with rfl | ⟨c, r, rfl⟩
    · by_cases h3 : m < D.funs.length
      · obtain ⟨g, rfl, e0⟩ := hf'.out m h3
        have h4 : (m : Int) < (D.funs.length : Int) := by omega
        clear hf'
        go_wp2
        go_quiet (fail)
        go_wp2
        go_ret
        exact ⟨by simp [rightTagF, List.getElem?_eq_getElem h3] <;> rfl, below_drewN hB _⟩
      · have h4 : ¬ (m : Int) < (D.funs.length : Int) := by omega
        go_wp2
        go_quiet (fail)
        go_wp2
        go_ret
        exact ⟨by simp [rightTagF, *] <;> rfl, below_drewN hB _⟩
    · have h4 : (⟨⟨c :: r⟩⟩ : ByteArray) ≠ ⟨#[]⟩ := by simp
      go_wp2
      go_quiet (fail)
      go_wp2
      go_ret
      exact ⟨by simp [rightTagF, *] <;> rfl, below_drewN hB _⟩
  by_cases h3 : kind = 3
  · subst h3
    rcases hnb with rfl | ⟨c, r, rfl⟩
    · by_cases h3 : m < D.funs.length
      · obtain ⟨g, rfl, e0⟩ := hf'.out m h3
        have h4 : (m : Int) < (D.funs.length : Int) := by omega
        by_cases h5 : 0 < nn
        · have hr : rightTagF D ⟨3, ⟨#[]⟩, (m : Int), nn⟩ = decide (nn ≤ D.funs[m].params) := by simp [rightTagF, h3, h5]
          clear hf'
          go_wp2
          go_quiet (fail)
          go_wp2
          go_ret
          exact ⟨by simp [rightTagF, List.getElem?_eq_getElem h3, h5] <;> rfl, below_drewN hB _⟩
        · have h5' : decide (0 < nn) = false := by simpa using h5
          go_wp2
          go_quiet (fail)
          go_wp2
          go_ret
          exact ⟨by simp [rightTagF, List.getElem?_eq_getElem h3, h5'], below_drewN hB _⟩
      · have h4 : ¬ (m : Int) < (D.funs.length : Int) := by omega
        go_wp2
        go_quiet (fail)
        go_wp2
        go_ret
        exact ⟨by simp [rightTagF, *] <;> rfl, below_drewN hB _⟩
    · have h4 : (⟨⟨c :: r⟩⟩ : ByteArray) ≠ ⟨#[]⟩ := by simp
      go_wp2
      go_quiet (fail)
      go_wp2
      go_ret
      exact ⟨by simp [rightTagF, *] <;> rfl, below_drewN hB _⟩
  by_cases h4 : kind = 4
  · subst h4
    rcases hnb with rfl | ⟨c, r, rfl⟩
    · by_cases h2 : m = 0
      · subst h2
        go_wp2
        all_goals
          go_ret
          exact ⟨by simp [rightTagF], hB⟩
      · go_wp2
        go_ret
        exact ⟨by simp [rightTagF, h2], hB⟩
    · have h4 : (⟨⟨c :: r⟩⟩ : ByteArray) ≠ ⟨#[]⟩ := by simp
      go_wp2
      go_ret
      exact ⟨by simp [rightTagF], hB⟩
  · rcases hnb with rfl | ⟨c, r, rfl⟩
    · by_cases h2 : m = 0
      · subst h2
        go_wp2
        all_goals
          go_ret
          exact ⟨by simp [rightTagF, *] <;> rfl, hB⟩
      · go_wp2
        go_ret
        exact ⟨by simp [rightTagF, *] <;> rfl, hB⟩
    · have h5 : (⟨⟨c :: r⟩⟩ : ByteArray) ≠ ⟨#[]⟩ := by simp
      go_wp2
      go_ret
      exact ⟨by simp [rightTagF, *] <;> rfl, hB⟩
end Go.Proofs.YtfdkdghhdigfbaaDoor
