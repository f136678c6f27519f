/- Numbers, a text are put. -/
import Derived.Test.YtfdkdghhdigfbaaDoorCg
namespace Go.Proofs.YtfdkdghhdigfbaaDoor
open Go Go.RowKit
set_option maxRecDepth 100000

def putsL (ns : List Int) : List Int := ns.flatMap putL
def I64 (n : Int) : Prop := -9223372036854775808 ≤ n ∧ n ≤ 9223372036854775807

set_option maxHeartbeats 4000000 in
theorem puts_call (ns : List Int) (hns : ∀ n ∈ ns, I64 n) (hlen : ns.length ≤ 8) (g c : Nat) (cs : Array Value) (hcs : cs = (ns.map (Value.int .i64)).toArray) (C : Nat) (vb : Value) (l : List Int) (w : World) (hg : w.heap[g]? = some (.cells cs 3 (0, 0))) (hb : w.ownsRow C 5 1 vb l.length (bCells l)) (hC : C ≤ w.heap.size) (hl : (l ++ putsL ns).length ≤ 100000000000000) :
    Calls Tryd.prog 15 #[vb, .slice (some ⟨g, 0, none⟩) ns.length c] w fun e w' => ∃ vb', e = .returned vb' ∧ w'.ownsRow C 5 1 vb' (l ++ putsL ns).length (bCells (l ++ putsL ns)) ∧ Puts C w w' := by
  obtain ⟨T, hT⟩ : ∃ T, l ++ putsL ns = T := ⟨_, rfl⟩
  rw [hT] at hl ⊢
  go_enter Tryd.func15, Tryd.ntmps15
  go_upto_block 0 with fail
  go_cut [0, 6, 9] from 10 to 16 (fun vb _ _ wr => wr.ownsRow C 5 1 vb T.length (bCells T) ∧ Puts C w wr)
  case first =>
    go_wp2_with fail
    go_loopw [0, 6, 9] (fun vb _ vi wr => ∃ (j : Nat) (l' : List Int), vi = .int .i64 (j : Int) ∧ j ≤ ns.length ∧ wr.ownsRow C 5 1 vb l'.length (bCells l') ∧ Veil (l' ++ putsL (ns.drop j) = T) ∧ Puts C w wr) (fun _ _ vi _ => 100 - (RowKit.intOf vi).toNat)
    case atStart => exact ⟨0, l, rfl, Nat.zero_le _, hb, ⟨hT⟩, Puts.refl C w⟩
    case round =>
      obtain ⟨j, l', rfl, hj, hown, hV, hP⟩ := hrel
      clear hb
      by_cases hx : j < ns.length
      · have hn := hns ns[j] (List.getElem_mem hx)
        have hd : ns.drop j = ns[j] :: ns.drop (j + 1) := List.drop_eq_getElem_cons hx
        have hk := hP.keep hg (by decide)
        have hcell : wr.cell? ⟨g, j, none⟩ = some (.int .i64 ns[j]) := by
          rw [Lib.cell_of_heap hk, hcs]
          rw [List.getElem?_toArray, List.getElem?_map, List.getElem?_eq_getElem hx]
          rfl
        have hV2 : Veil ((l' ++ putL ns[j]) ++ putsL (ns.drop (j + 1)) = T) := ⟨by
          have h := hV.out
          rw [hd] at h
          unfold putsL at h ⊢
          rw [List.flatMap_cons, ← List.append_assoc] at h
          exact h⟩
        have hle : (l' ++ putL ns[j]).length ≤ 100000000000000 := by
          have := congrArg List.length hV2.out
          rw [List.length_append] at this
          omega
        have hsz := hP.size
        have hj0 : (0 : Int) ≤ (j : Int) := by omega
        have hj1 : (j : Int) < (ns.length : Int) := by omega
        clear hd hk hcs hg
        generalize ns[j] = n at hn hcell hV2 hle
        go_wp2_with fail
        go_at_call 17
        refine (put_call n hn C _ l' wr hown (by omega) hle).mono ?_
        rintro e w2 ⟨vb', rfl, hown2, hP2⟩
        go_wp2_with fail
        exact ⟨⟨j + 1, l' ++ putL n, by simp, by omega, hown2, hV2, hP.trans hP2⟩, by simp [RowKit.intOf]; omega⟩
      · have hj2 : j = ns.length := by omega
        have hj3 : ¬ (j : Int) < (ns.length : Int) := by omega
        have e : l' = T := by
          have := hV.out
          rw [hj2, List.drop_length] at this
          simpa [putsL] using this
        rw [e] at hown
        go_wp2
        go_meet
        case rel => exact ⟨hown, hP⟩
  case rest =>
    obtain ⟨hown, hP⟩ := hcut
    go_wp2
    go_ret
    exact ⟨_, rfl, hown, hP⟩

def txtL (s : ByteArray) : List Int := s.data.toList.map fun b => (b.toNat : Int)
theorem txtL_cells (s : ByteArray) : Lib.strCells s = bCells (txtL s) := by
  unfold Lib.strCells bCells txtL
  rw [List.map_map]
  rfl
theorem txtL_length (s : ByteArray) : (txtL s).length = s.size := by
  unfold txtL
  rw [List.length_map]
  exact Array.length_toList

def textB (s : ByteArray) : List Int := putsL [(s.size : Int)] ++ txtL s

set_option maxHeartbeats 4000000 in
theorem ptext_call (s : ByteArray) (hs : s.size ≤ 1000000) (C : Nat) (vb : Value) (l : List Int) (w : World) (hb : w.ownsRow C 5 1 vb l.length (bCells l)) (hC : C ≤ w.heap.size) (hl : (l ++ textB s).length ≤ 100000000000000) :
    Calls Tryd.prog 16 #[vb, .string s] w fun e w' => ∃ vb', e = .returned vb' ∧ w'.ownsRow C 5 1 vb' (l ++ textB s).length (bCells (l ++ textB s)) ∧ Puts C w w' := by
  obtain ⟨iB, hiB, hzB, hsB, hbB⟩ := info_parts infoB
  have hl2 : (l ++ putsL [(s.size : Int)]).length + s.size ≤ 100000000000000 := by
    have e := txtL_length s
    unfold textB at hl
    rw [← List.append_assoc, List.length_append, e] at hl
    exact hl
  have e : l ++ textB s = (l ++ putsL [(s.size : Int)]) ++ txtL s := by unfold textB; rw [List.append_assoc]
  rw [e] at hl ⊢
  clear e
  obtain ⟨l1, hl1⟩ : ∃ x, l ++ putsL [(s.size : Int)] = x := ⟨_, rfl⟩
  rw [hl1] at hl hl2 ⊢
  go_enter Tryd.func16, Tryd.ntmps16
  go_wp2_with fail
  go_at_call 15
  refine (puts_call [(s.size : Int)] (fun n hn => by simp at hn; subst hn; exact ⟨by omega, by omega⟩) (by simp) w.heap.size 1 #[.int .i64 (s.size : Int)] rfl C vb l (w.alloc (Obj.cells #[.int .i64 (s.size : Int)] 3)) (heap_alloc_new w _) (hb.alloc _) (by simp; omega) (by rw [hl1]; omega)).mono ?_
  rintro e w1 ⟨v1, rfl, hown, hP⟩
  have hP1 := (Puts.alloc C w (Obj.cells #[.int .i64 (s.size : Int)] 3)).trans hP
  have hsz := hP1.size
  clear hP hb
  rw [hl1] at hown
  go_wp2_with (at_builtin; refine Lib.wpList_append_own_string _ rfl _ _ 22 9 rfl C 5 iB Tryd.underlying22 Tryd.underlying9 hiB hzB hsB hbB _ _ _ rfl hown s rfl ?c3 ?c4 ?c5 ?_)
  case c3 => unfold maxLen; omega
  case c4 => omega
  case c5 => omega
  intro v' w2 hown' hgrow _
  go_wp2
  go_ret
  refine ⟨_, rfl, ?_, hP1.trans (Puts.grown hown hgrow)⟩
  rw [bCells_append, ← txtL_cells]
  simpa [txtL_length] using hown'
end Go.Proofs.YtfdkdghhdigfbaaDoor
