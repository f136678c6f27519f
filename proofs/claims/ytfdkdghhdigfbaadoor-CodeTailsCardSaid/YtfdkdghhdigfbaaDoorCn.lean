/- How many values an instruction has to have: walked. -/
import Derived.Test.YtfdkdghhdigfbaaDoorCm
namespace Go.Proofs.YtfdkdghhdigfbaaDoor
open Go Go.RowKit
set_option maxRecDepth 100000

/-- Each tag that lacks arguments names a function that is there. -/
def TagsOk (D : CodeD) : Prop := ∀ t ∈ D.tags, t.kind = 3 → t.fn.toNat < D.funs.length

def valsF (D : CodeD) (x : InsD) : Int :=
  if x.op = 1 then (match D.tags[x.tag.toNat]? with | none => -1 | some t => fieldsF D t)
  else if x.op = 4 then (match D.funs[x.fn.toNat]? with | none => -1 | some f => f.params)
  else if x.op = 2 ∨ x.op = 5 ∨ x.op = 8 ∨ x.op = 12 ∨ x.op = 9 ∨ x.op = 11 then 1
  else if x.op = 3 then 2
  else if x.op = 6 then (max 2 (x.vals.length : Int))
  else if x.op = 7 then (if 0 < primsF x.prim then primsF x.prim else -1)
  else if x.op = 10 then 0
  else -1

set_option maxHeartbeats 16000000 in
theorem vals_call (D : CodeD) (hF : FitD D) (hT : TagsOk D) (x : InsD) (hx : FitIns x) (vao : Option Addr) (vcap : Nat) (va : Value) (w : World) (C bc : Nat) (vt vf vi : Value) (hc : Cells w C bc D vt vf vi) (hC : C ≤ w.heap.size) :
    Calls Tryd.prog 26 #[.pointer (some ⟨bc, 0, none⟩), insV x (.slice vao x.vals.length vcap) va] w fun e w' => e = .returned (.int .i64 (valsF D x)) ∧ Below w.heap.size w w' := by
  obtain ⟨op, dst, tag, fn, nn, prim, vals, alts⟩ := x
  have k0 := hx.op
  have k2 := hx.tag
  have k3 := hx.fn
  have kv := hx.vl
  dsimp only at k0 k2 k3 kv
  obtain ⟨tao, tcap, rfl, htcap, hft⟩ := hc.tags'
  obtain ⟨fao, fcap, rfl, hfcap, hff⟩ := hc.funs'
  have q0 := hc.c0
  have q1 := hc.c1
  have hlo := hc.lo
  have n1 := hF.tl
  have n2 := hF.fl
  obtain ⟨m, rfl⟩ := Int.eq_ofNat_of_zero_le k2.1
  obtain ⟨q, rfl⟩ := Int.eq_ofNat_of_zero_le k3.1
  have hfu : Veil (FitD D) := ⟨hF⟩
  have hT' : Veil (TagsOk D) := ⟨hT⟩
  obtain ⟨bt, hbt⟩ : ∃ b, w.heap.size = b := ⟨_, rfl⟩
  rw [hbt] at hC ⊢
  have hB : Below bt w (w.alloc (Obj.cells #[.int .i64 op, .int .i64 dst, .int .i64 (m : Int), .int .i64 (q : Int), .int .i64 nn, .string prim, .slice vao vals.length vcap, va] 54)) := (Below.refl _ w).alloc (Nat.le_of_eq hbt.symm) _
  have hnw := heap_alloc_new w (Obj.cells #[.int .i64 op, .int .i64 dst, .int .i64 (m : Int), .int .i64 (q : Int), .int .i64 nn, .string prim, .slice vao vals.length vcap, va] 54)
  have hM : Veil (Cells (w.alloc (Obj.cells #[.int .i64 op, .int .i64 dst, .int .i64 (m : Int), .int .i64 (q : Int), .int .i64 nn, .string prim, .slice vao vals.length vcap, va] 54)) C bc D (.slice tao D.tags.length tcap) (.slice fao D.funs.length fcap) vi) := ⟨hc.keep fun k hk => Lib.alloc_old _ _ _ (by omega)⟩
  have hsz : (w.alloc (Obj.cells #[.int .i64 op, .int .i64 dst, .int .i64 (m : Int), .int .i64 (q : Int), .int .i64 nn, .string prim, .slice vao vals.length vcap, va] 54)).heap.size = bt + 1 := by simp [hbt]
  rw [hbt] at hnw
  obtain ⟨p0, p1, p2, p3, p4, p5, p6, p7, _⟩ := ins_cells hnw
  have q0' := (cell_old (o := Obj.cells #[.int .i64 op, .int .i64 dst, .int .i64 (m : Int), .int .i64 (q : Int), .int .i64 nn, .string prim, .slice vao vals.length vcap, va] 54) (j := 0) (Nat.lt_of_lt_of_le hlo (by omega))).trans q0
  have q1' := (cell_old (o := Obj.cells #[.int .i64 op, .int .i64 dst, .int .i64 (m : Int), .int .i64 (q : Int), .int .i64 nn, .string prim, .slice vao vals.length vcap, va] 54) (j := 1) (Nat.lt_of_lt_of_le hlo (by omega))).trans q1
  have hft' : ∀ j (h : j < D.tags.length), ∃ g, tao = some ⟨g, 0, none⟩ ∧ (w.alloc (Obj.cells #[.int .i64 op, .int .i64 dst, .int .i64 (m : Int), .int .i64 (q : Int), .int .i64 nn, .string prim, .slice vao vals.length vcap, va] 54)).cell? ⟨g, j * 4, none⟩ = some (.int .i64 D.tags[j].kind) ∧ (w.alloc (Obj.cells #[.int .i64 op, .int .i64 dst, .int .i64 (m : Int), .int .i64 (q : Int), .int .i64 nn, .string prim, .slice vao vals.length vcap, va] 54)).cell? ⟨g, j * 4 + 1, none⟩ = some (.string D.tags[j].name) ∧ (w.alloc (Obj.cells #[.int .i64 op, .int .i64 dst, .int .i64 (m : Int), .int .i64 (q : Int), .int .i64 nn, .string prim, .slice vao vals.length vcap, va] 54)).cell? ⟨g, j * 4 + 2, none⟩ = some (.int .i64 D.tags[j].fn) ∧ (w.alloc (Obj.cells #[.int .i64 op, .int .i64 dst, .int .i64 (m : Int), .int .i64 (q : Int), .int .i64 nn, .string prim, .slice vao vals.length vcap, va] 54)).cell? ⟨g, j * 4 + 3, none⟩ = some (.int .i64 D.tags[j].n) := fun j h => by
    obtain ⟨g, e, hg, h1, h2, h3, h4⟩ := hft j h
    have hg' : g < w.heap.size := by omega
    exact ⟨g, e, (cell_old hg').trans h1, (cell_old hg').trans h2, (cell_old hg').trans h3, (cell_old hg').trans h4⟩
  have hff' : ∀ j (h : j < D.funs.length), ∃ g, fao = some ⟨g, 0, none⟩ ∧ (w.alloc (Obj.cells #[.int .i64 op, .int .i64 dst, .int .i64 (m : Int), .int .i64 (q : Int), .int .i64 nn, .string prim, .slice vao vals.length vcap, va] 54)).cell? ⟨g, j * 3, none⟩ = some (.int .i64 D.funs[j].params) := fun j h => by
    obtain ⟨g, e, hg, h1, _⟩ := hff j h
    have hg' : g < w.heap.size := by omega
    exact ⟨g, e, (cell_old hg').trans h1⟩
  clear hc hft hff
  have hft := Veil.mk hft'
  have hff := Veil.mk hff'
  have hK : True := trivial
  have hpr : True := trivial
  clear hft' hff'
  unfold insV
  go_enter Tryd.func26, Tryd.ntmps26
  go_upto_region 1 with fail
  generalize w.alloc (Obj.cells #[.int .i64 op, .int .i64 dst, .int .i64 (m : Int), .int .i64 (q : Int), .int .i64 nn, .string prim, .slice vao vals.length vcap, va] 54) = w0 at hB p0 p1 p2 p3 p4 p5 p6 p7 q0' q1' hft hff hM hsz ⊢
  clear hnw q0 q1
  by_cases g1 : op = 1
  · subst g1
    clear hff
    by_cases h4 : m < D.tags.length
    · obtain ⟨g, rfl, e0, e1, e2, e3⟩ := hft.out m h4
      have h5 : (m : Int) < (D.tags.length : Int) := by omega
      have hft1 := hfu.out.tags _ (List.getElem_mem h4)
      have hk1 := hT'.out _ (List.getElem_mem h4)
      have hr : valsF D ⟨1, dst, (m : Int), (q : Int), nn, prim, vals, alts⟩ = fieldsF D D.tags[m] := by simp [valsF, List.getElem?_eq_getElem h4]
      generalize D.tags[m] = tg at e0 e1 e2 e3 hft1 hk1 hr
      obtain ⟨tk, tn, tf, tq⟩ := tg
      replace hr := Veil.mk hr
      replace hk1 := Veil.mk hk1
      clear hft
      go_wp2
      go_quiet (fail)
      go_wp2
      go_region_with (go_at_call 28; refine (fields_call D hfu.out ⟨tk, tn, tf, tq⟩ hft1 hk1.out _ C bc _ _ vi (Cells.keep (w := w0) (w' := w0.drewN (nq + 1)) hM.out (fun _ _ => rfl)) (show C ≤ w0.heap.size by omega)).mono ?_; rintro e w' ⟨rfl, hB2⟩)
      all_goals
        go_wp2
        go_ret
        exact ⟨by rw [hr.out]; first | rfl | simp, (below_drewN hB (nq + 1)).trans (hB2.mono (show bt ≤ w0.heap.size by omega))⟩
    · have h5 : ¬ (m : Int) < (D.tags.length : Int) := by omega
      have h5' : decide ((m : Int) < (D.tags.length : Int)) = false := by simpa using h4
      clear hft
      go_wp2
      go_quiet (fail)
      go_wp2
      go_ret
      exact ⟨by simp [valsF, List.getElem?_eq_none (Nat.le_of_not_lt h4)], below_drewN hB _⟩
  by_cases g4 : op = 4
  · subst g4
    clear hft
    by_cases h4 : q < D.funs.length
    · obtain ⟨g, rfl, e0⟩ := hff.out q h4
      have h5 : (q : Int) < (D.funs.length : Int) := by omega
      have hr : valsF D ⟨4, dst, (m : Int), (q : Int), nn, prim, vals, alts⟩ = D.funs[q].params := by simp [valsF, List.getElem?_eq_getElem h4]
      generalize D.funs[q].params = pn at e0 hr
      replace hr := Veil.mk hr
      clear hff
      go_wp2
      go_quiet (fail)
      go_wp2
      go_quiet (fail)
      go_wp2
      go_ret
      exact ⟨by rw [hr.out]; first | rfl | simp, below_drewN (below_drewN hB _) _⟩
    · have h5 : ¬ (q : Int) < (D.funs.length : Int) := by omega
      have h5' : decide ((q : Int) < (D.funs.length : Int)) = false := by simpa using h4
      clear hff
      go_wp2
      go_quiet (fail)
      go_wp2
      go_ret
      exact ⟨by simp [valsF, List.getElem?_eq_none (Nat.le_of_not_lt h4)], below_drewN hB _⟩
  by_cases g2 : op = 2
  · subst g2
    clear hft hff hT' hM hK hfu hpr
    go_wp2
    go_ret
    exact ⟨by simp [valsF], hB⟩
  by_cases g5 : op = 5
  · subst g5
    clear hft hff hT' hM hK hfu hpr
    go_wp2
    go_ret
    exact ⟨by simp [valsF], hB⟩
  by_cases g8 : op = 8
  · subst g8
    clear hft hff hT' hM hK hfu hpr
    go_wp2
    go_ret
    exact ⟨by simp [valsF], hB⟩
  by_cases g12 : op = 12
  · subst g12
    clear hft hff hT' hM hK hfu hpr
    go_wp2
    go_ret
    exact ⟨by simp [valsF], hB⟩
  by_cases g9 : op = 9
  · subst g9
    clear hft hff hT' hM hK hfu hpr
    go_wp2
    go_ret
    exact ⟨by simp [valsF], hB⟩
  by_cases g11 : op = 11
  · subst g11
    clear hft hff hT' hM hK hfu hpr
    go_wp2
    go_ret
    exact ⟨by simp [valsF], hB⟩
  by_cases g3 : op = 3
  · subst g3
    clear hft hff hT' hM hK hfu hpr
    go_wp2
    go_ret
    exact ⟨by simp [valsF], hB⟩
  by_cases g10 : op = 10
  · subst g10
    clear hft hff hT' hM hK hfu hpr
    go_wp2
    go_ret
    exact ⟨by simp [valsF], hB⟩
  by_cases g7 : op = 7
  · subst g7
    clear hft hff hT' hM hK hfu hpr
    by_cases h4 : 0 < primsF prim
    · have hr : valsF D ⟨7, dst, (m : Int), (q : Int), nn, prim, vals, alts⟩ = primsF prim := by simp [valsF, h4]
      replace hr := Veil.mk hr
      go_wp2_with (go_at_call 29; refine (prims_call prim _).mono ?_; rintro e w' ⟨rfl, hB2⟩)
      go_ret
      exact ⟨by rw [hr.out]; first | rfl | simp, hB.trans (hB2.mono (by omega))⟩
    · have hr : valsF D ⟨7, dst, (m : Int), (q : Int), nn, prim, vals, alts⟩ = -1 := by simp [valsF, h4]
      replace hr := Veil.mk hr
      have h4' : decide (0 < primsF prim) = false := by simpa using h4
      go_wp2_with (go_at_call 29; refine (prims_call prim _).mono ?_; rintro e w' ⟨rfl, hB2⟩)
      go_ret
      exact ⟨by rw [hr.out]; first | rfl | simp, hB.trans (hB2.mono (by omega))⟩
  by_cases g6 : op = 6
  · subst g6
    clear hft hff hT' hM hK hfu hpr
    have hr : valsF D ⟨6, dst, (m : Int), (q : Int), nn, prim, vals, alts⟩ = (max 2 (vals.length : Int)) := by simp [valsF]
    replace hr := Veil.mk hr
    go_wp2
    go_ret
    refine ⟨?_, hB⟩
    rw [hr.out]
    rfl
  · have hr : valsF D ⟨op, dst, (m : Int), (q : Int), nn, prim, vals, alts⟩ = -1 := by simp [valsF, *]
    replace hr := Veil.mk hr
    clear hft hff hT' hM hK hfu hpr
    go_wp2
    go_ret
    exact ⟨by rw [hr.out]; first | rfl | simp, hB⟩
end Go.Proofs.YtfdkdghhdigfbaaDoor
