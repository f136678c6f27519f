/- How many values an instruction has; whether numbers may stand among them: walked. -/
import Derived.Test.YtfdkdghhdigfbaaDoorCk
import Derived.IntWalk
namespace Go.Proofs.YtfdkdghhdigfbaaDoor
open Go Go.RowKit
set_option maxRecDepth 100000

def fieldsF (D : CodeD) (t : TagD) : Int :=
  if t.kind = 3 then (match D.funs[t.fn.toNat]? with | none => 0 | some f => f.params - t.n)
  else if t.kind = 4 then t.n + 1
  else if t.kind = 5 then 1 else if t.kind = 6 then 1 else t.n

set_option maxHeartbeats 4000000 in
theorem fields_call (D : CodeD) (hF : FitD D) (t : TagD) (ht : FitTag t) (hk : t.kind = 3 → t.fn.toNat < D.funs.length) (w : World) (C bc : Nat) (vt vf vi : Value) (hc : Cells w C bc D vt vf vi) (hC : C ≤ w.heap.size) :
    Calls Tryd.prog 28 #[.pointer (some ⟨bc, 0, none⟩), tagV t] w fun e w' => e = .returned (.int .i64 (fieldsF D t)) ∧ Below w.heap.size w w' := by
  obtain ⟨kind, name, fn, nn⟩ := t
  have k0 := ht.kind
  have k2 := ht.fn
  have k3 := ht.n
  dsimp only at k0 k2 k3 hk
  obtain ⟨fao, fcap, rfl, hcap, hf⟩ := hc.funs'
  have q1 := hc.c1
  have hlo := hc.lo
  have n2 := hF.fl
  obtain ⟨m, rfl⟩ := Int.eq_ofNat_of_zero_le k2.1
  obtain ⟨bt, hbt⟩ : ∃ b, w.heap.size = b := ⟨_, rfl⟩
  rw [hbt]
  have hB : Below bt w (w.alloc (Obj.cells #[.int .i64 kind, .string name, .int .i64 (m : Int), .int .i64 nn] 47)) := (Below.refl _ w).alloc (Nat.le_of_eq hbt.symm) _
  have hnw := heap_alloc_new w (Obj.cells #[.int .i64 kind, .string name, .int .i64 (m : Int), .int .i64 nn] 47)
  rw [hbt] at hnw
  obtain ⟨p0, p1, p2, p3, _⟩ := cells4 hnw
  have q1' := (cell_old (o := Obj.cells #[.int .i64 kind, .string name, .int .i64 (m : Int), .int .i64 nn] 47) (j := 1) (Nat.lt_of_lt_of_le hlo hC)).trans q1
  have hf' : ∀ j (h : j < D.funs.length), ∃ g, fao = some ⟨g, 0, none⟩ ∧ (w.alloc (Obj.cells #[.int .i64 kind, .string name, .int .i64 (m : Int), .int .i64 nn] 47)).cell? ⟨g, j * 3, none⟩ = some (.int .i64 D.funs[j].params) := fun j h => by
    obtain ⟨g, e, hg, h1, _⟩ := hf j h
    exact ⟨g, e, (cell_old (Nat.lt_of_lt_of_le hg hC)).trans h1⟩
  replace hf' := Veil.mk hf'
  rw [hbt] at hC
  have hfu : Veil (∀ f ∈ D.funs, FitFun f) := ⟨hF.funs⟩
  clear hc hf
  unfold tagV
  go_enter Tryd.func28, Tryd.ntmps28
  go_upto_region 1 with fail
  generalize w.alloc (Obj.cells #[.int .i64 kind, .string name, .int .i64 (m : Int), .int .i64 nn] 47) = w0 at hB p0 p1 p2 p3 q1' hf' ⊢
  clear hnw q1
  by_cases h1 : kind = 3
  · subst h1
    have h3 : m < D.funs.length := by simpa using hk rfl
    obtain ⟨g, rfl, e0⟩ := hf'.out m h3
    have hp := (hfu.out _ (List.getElem_mem h3)).params
    have h4 : (m : Int) < (D.funs.length : Int) := by omega
    have hr : fieldsF D ⟨3, name, (m : Int), nn⟩ = D.funs[m].params - nn := by simp [fieldsF, List.getElem?_eq_getElem h3]
    replace hr := Veil.mk hr
    clear hf' hfu hk
    go_wp2
    go_quiet (fail)
    go_wp2
    go_ret
    refine ⟨?_, below_drewN hB _⟩
    rw [hr.out]
    first
      | rfl
      | (rw [IntWalk.i64_in _ (by omega)])
  · clear hf' hfu hk
    by_cases h4 : kind = 4
    · subst h4
      go_wp2
      go_ret
      exact ⟨by simp [fieldsF], hB⟩
    · by_cases h5 : kind = 5
      · subst h5
        go_wp2
        go_ret
        exact ⟨by simp [fieldsF], hB⟩
      · by_cases h6 : kind = 6
        · subst h6
          go_wp2
          go_ret
          exact ⟨by simp [fieldsF], hB⟩
        · go_wp2
          go_ret
          exact ⟨by simp [fieldsF, h1, h4, h5, h6], hB⟩

def insV (x : InsD) (vv va : Value) : Value := .agg #[.int .i64 x.op, .int .i64 x.dst, .int .i64 x.tag, .int .i64 x.fn, .int .i64 x.n, .string x.prim, vv, va]

def bareF (D : CodeD) (x : InsD) : Bool :=
  decide (x.op = 7) || (decide (x.op = 9) || (decide (x.op = 1) && (match D.tags[x.tag.toNat]? with | none => false | some t => decide (t.kind = 5) || decide (t.kind = 6))))

set_option maxHeartbeats 16000000 in
theorem bare_call (D : CodeD) (hF : FitD D) (x : InsD) (hx : FitIns x) (hk : x.op = 1 → x.tag.toNat < D.tags.length) (vv va : Value) (w : World) (C bc : Nat) (vt vf vi : Value) (hc : Cells w C bc D vt vf vi) (hC : C ≤ w.heap.size) :
    Calls Tryd.prog 27 #[.pointer (some ⟨bc, 0, none⟩), insV x vv va] w fun e w' => e = .returned (.bool (bareF D x)) ∧ Below w.heap.size w w' := by
  obtain ⟨op, dst, tag, fn, nn, prim, vals, alts⟩ := x
  have k0 := hx.op
  have k2 := hx.tag
  dsimp only at k0 k2 hk
  obtain ⟨tao, tcap, rfl, hcap, hf⟩ := hc.tags'
  have q1 := hc.c0
  have hlo := hc.lo
  have n2 := hF.tl
  obtain ⟨m, rfl⟩ := Int.eq_ofNat_of_zero_le k2.1
  obtain ⟨bt, hbt⟩ : ∃ b, w.heap.size = b := ⟨_, rfl⟩
  rw [hbt]
  have hB : Below bt w (w.alloc (Obj.cells #[.int .i64 op, .int .i64 dst, .int .i64 (m : Int), .int .i64 fn, .int .i64 nn, .string prim, vv, va] 54)) := (Below.refl _ w).alloc (Nat.le_of_eq hbt.symm) _
  have hnw := heap_alloc_new w (Obj.cells #[.int .i64 op, .int .i64 dst, .int .i64 (m : Int), .int .i64 fn, .int .i64 nn, .string prim, vv, va] 54)
  rw [hbt] at hnw
  obtain ⟨p0, p1, p2, p3, p4, p5, p6, p7, _⟩ := ins_cells hnw
  have q1' := (cell_old (o := Obj.cells #[.int .i64 op, .int .i64 dst, .int .i64 (m : Int), .int .i64 fn, .int .i64 nn, .string prim, vv, va] 54) (j := 0) (Nat.lt_of_lt_of_le hlo hC)).trans q1
  have hf' : ∀ j (h : j < D.tags.length), ∃ g, tao = some ⟨g, 0, none⟩ ∧ (w.alloc (Obj.cells #[.int .i64 op, .int .i64 dst, .int .i64 (m : Int), .int .i64 fn, .int .i64 nn, .string prim, vv, va] 54)).cell? ⟨g, j * 4, none⟩ = some (.int .i64 D.tags[j].kind) := fun j h => by
    obtain ⟨g, e, hg, h1, _⟩ := hf j h
    exact ⟨g, e, (cell_old (Nat.lt_of_lt_of_le hg hC)).trans h1⟩
  replace hf' := Veil.mk hf'
  rw [hbt] at hC
  clear hc hf
  unfold insV
  go_enter Tryd.func27, Tryd.ntmps27
  go_upto_region 1 with fail
  generalize w.alloc (Obj.cells #[.int .i64 op, .int .i64 dst, .int .i64 (m : Int), .int .i64 fn, .int .i64 nn, .string prim, vv, va] 54) = w0 at hB p0 p1 p2 p3 p4 p5 p6 p7 q1' hf' ⊢
  clear hnw q1
  by_cases h1 : op = 7
  · subst h1
    clear hf' hk
    go_quiet (fail)
    go_wp2
    go_ret
    exact ⟨by simp [bareF], below_drewN hB _⟩
  by_cases h2 : op = 9
  · subst h2
    clear hf' hk
    go_quiet (fail)
    go_wp2
    go_ret
    exact ⟨by simp [bareF], below_drewN hB _⟩
  by_cases h3 : op = 1
  · subst h3
    have h4 : m < D.tags.length := by simpa using hk rfl
    obtain ⟨g, rfl, e0⟩ := hf'.out m h4
    have h5 : (m : Int) < (D.tags.length : Int) := by omega
    by_cases h6 : D.tags[m].kind = 5
    · have hr : bareF D ⟨1, dst, (m : Int), fn, nn, prim, vals, alts⟩ = true := by simp [bareF, List.getElem?_eq_getElem h4, h6]
      replace hr := Veil.mk hr
      rw [h6] at e0
      clear hf' hk h6
      go_quiet (fail)
      go_wp2
      go_ret
      exact ⟨by rw [hr.out]; rfl, below_drewN hB _⟩
    · have hr : bareF D ⟨1, dst, (m : Int), fn, nn, prim, vals, alts⟩ = decide (D.tags[m].kind = 6) := by simp [bareF, List.getElem?_eq_getElem h4, h6]
      replace hr := Veil.mk hr
      clear hf' hk
      generalize D.tags[m].kind = kd at e0 h6 hr
      have h6' : (kd == 5) = false := by simp [h6]
      go_quiet (fail)
      go_wp2
      go_ret
      exact ⟨by rw [hr.out]; simp <;> rfl, below_drewN hB _⟩
  · clear hf' hk
    have h1' : (op == 7) = false := by simp [h1]
    have h2' : (op == 9) = false := by simp [h2]
    have h3' : (op == 1) = false := by simp [h3]
    go_quiet (fail)
    go_wp2
    go_ret
    exact ⟨by simp [bareF, h1, h2, h3], below_drewN hB _⟩
end Go.Proofs.YtfdkdghhdigfbaaDoor
