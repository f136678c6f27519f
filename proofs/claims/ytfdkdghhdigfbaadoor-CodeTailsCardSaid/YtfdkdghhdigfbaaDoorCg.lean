/- A number is put. -/
import Derived.Test.YtfdkdghhdigfbaaDoorCf
import Derived.Laws.Closers25b
import Derived.Lib.AppendStr
namespace Go.Proofs.YtfdkdghhdigfbaaDoor
open Go Go.RowKit
set_option maxRecDepth 100000

def bCells (l : List Int) : List Value := l.map (Value.int .u8)
theorem bCells_append (a b : List Int) : bCells (a ++ b) = bCells a ++ bCells b := List.map_append
theorem bCells_length (a : List Int) : (bCells a).length = a.length := List.length_map ..

theorem infoB : (Tryd.prog.info? 5).map (fun i => (i.zero, i.size, i.bytes)) = some (some (.int .u8 0), 1, 1) := by kernel_rfl

/-- What writing bytes leaves alone: what lies below, and what is no row of bytes. -/
structure Puts (C : Nat) (w w' : World) : Prop where
  os : w'.os = w.os
  tape : w'.tape = w.tape
  output : w'.output = w.output
  size : w.heap.size ≤ w'.heap.size
  block : ∀ k, k < w.heap.size → (k < C ∨ ∃ cs e fr, w.heap[k]? = some (.cells cs e fr) ∧ e ≠ 5) → w'.heap[k]? = w.heap[k]?
theorem Puts.refl (C : Nat) (w : World) : Puts C w w := ⟨rfl, rfl, rfl, Nat.le_refl _, fun _ _ _ => rfl⟩
theorem Puts.trans {C : Nat} {a b c : World} (h : Puts C a b) (k : Puts C b c) : Puts C a c :=
  ⟨k.os.trans h.os, k.tape.trans h.tape, k.output.trans h.output, Nat.le_trans h.size k.size, fun i hi hb => by
    have e := h.block i hi hb
    refine (k.block i (Nat.lt_of_lt_of_le hi h.size) ?_).trans e
    rcases hb with hb | ⟨cs, e', fr, hb, he⟩
    · exact .inl hb
    · exact .inr ⟨cs, e', fr, e.trans hb, he⟩⟩
theorem Puts.alloc (C : Nat) (w : World) (o : Obj) : Puts C w (w.alloc o) :=
  ⟨rfl, rfl, rfl, by simp, fun k hk _ => Lib.alloc_old w o k hk⟩
theorem Puts.same {C : Nat} {w W : World} (e1 : W.heap = w.heap) (e2 : W.os = w.os) (e3 : W.tape = w.tape) (e4 : W.output = w.output) : Puts C w W :=
  ⟨e2, e3, e4, Nat.le_of_eq (by rw [e1]), fun k _ _ => by rw [e1]⟩
theorem Puts.grown {C : Nat} {w w' : World} {v : Value} {n : Nat} {xs : List Value} (h : w.ownsRow C 5 1 v n xs) (hg : w.grownBy w' v.ownBlock) : Puts C w w' := by
  refine ⟨hg.os, hg.tape, hg.output, hg.size, fun k hk hb => hg.block k hk fun e => ?_⟩
  have hC := (h.lt k e.symm).1
  rcases h.2 with ⟨rfl, _⟩ | ⟨g, cap, cur, rfl, _, hg', _⟩
  · cases e
  · simp only [Value.ownBlock, Option.some.injEq] at e
    subst e
    rcases hb with hb | ⟨cs, e', fr, hb, he⟩
    · omega
    · rw [hg'] at hb
      simp only [Option.some.injEq, Obj.cells.injEq] at hb
      exact he hb.2.1.symm
theorem Puts.keep {C : Nat} {w w' : World} {k : Nat} {cs : Array Value} {e : TypeId} {fr : Nat × Nat} (h : Puts C w w') (hk : w.heap[k]? = some (.cells cs e fr)) (he : e ≠ 5) : w'.heap[k]? = some (.cells cs e fr) :=
  (h.block k (Array.getElem?_eq_some_iff.1 hk).1 (.inr ⟨cs, e, fr, hk, he⟩)).trans hk

def putN : Nat → Int → List Int
  | 0, x => [x]
  | k + 1, x => if 127 < x then bits .or .u8 (x % 256) 128 :: putN k (x / 128) else [x]
def putX (n : Int) : Int := bits .xor .u64 (IntKind.u64.wrap (IntKind.u64.wrap n * 2)) (IntKind.u64.wrap (n / 9223372036854775808))
def putL (n : Int) : List Int := putN 9 (putX n)
theorem putN_end (k : Nat) (x : Int) (h : x ≤ 127) : putN k x = [x] := by
  cases k with
  | zero => rfl
  | succ k => unfold putN; rw [if_neg (by omega)]
theorem putN_more (k : Nat) (x : Int) (h : 127 < x) : putN (k + 1) x = bits .or .u8 (x % 256) 128 :: putN k (x / 128) := by
  conv => lhs; unfold putN
  rw [if_pos h]
theorem putN_length (k : Nat) : ∀ x, (putN k x).length ≤ k + 1 := by
  induction k with
  | zero => intro x; exact Nat.le_refl _
  | succ k ih =>
    intro x
    unfold putN
    split
    · have := ih (x / 128); simp; omega
    · simp
theorem putL_length (n : Int) : (putL n).length ≤ 10 := putN_length 9 _

set_option maxHeartbeats 4000000 in
theorem put_call (n : Int) (hn : -9223372036854775808 ≤ n ∧ n ≤ 9223372036854775807) (C : Nat) (vb : Value) (l : List Int) (w : World) (hb : w.ownsRow C 5 1 vb l.length (bCells l)) (hC : C ≤ w.heap.size) (hl : (l ++ putL n).length ≤ 100000000000000) :
    Calls Tryd.prog 17 #[vb, .int .i64 n] w fun e w' => ∃ vb', e = .returned vb' ∧ w'.ownsRow C 5 1 vb' (l ++ putL n).length (bCells (l ++ putL n)) ∧ Puts C w w' := by
  have h1 := hn.1
  have h2 := hn.2
  obtain ⟨T, hT⟩ : ∃ T, l ++ putL n = T := ⟨_, rfl⟩
  rw [hT] at hl ⊢
  obtain ⟨iB, hiB, hzB, hsB, hbB⟩ := info_parts infoB
  go_enter Tryd.func17, Tryd.ntmps17
  go_upto_block 0 with fail
  go_cut [0, 5] from 13 to 22 (fun vb vx wr => ∃ (x : Int) (l' : List Int), vx = .int .u64 x ∧ 0 ≤ x ∧ x ≤ 127 ∧ wr.ownsRow C 5 1 vb l'.length (bCells l') ∧ Veil (l' ++ [x] = T) ∧ Puts C w wr)
  case first =>
    go_wp2_with fail
    go_loopw [0, 5] (fun vb vx wr => ∃ (k : Nat) (x : Int) (l' : List Int), vx = .int .u64 x ∧ 0 ≤ x ∧ Veil (x < 128 ^ (k + 1)) ∧ wr.ownsRow C 5 1 vb l'.length (bCells l') ∧ Veil (l' ++ putN k x = T) ∧ Puts C w wr) (fun _ vx _ => (RowKit.intOf vx).toNat)
    case atStart =>
      refine ⟨9, putX n, l, rfl, ?_, ⟨?_⟩, hb, ⟨hT⟩, Puts.refl C w⟩
      · exact (bits_within .xor .u64 _ _).1
      · have := (bits_within .xor .u64 (IntKind.u64.wrap (IntKind.u64.wrap n * 2)) (IntKind.u64.wrap (n / 9223372036854775808))).2
        unfold putX
        have e : (128 : Int) ^ (9 + 1) = 1180591620717411303424 := by decide
        rw [e]
        have e2 : IntKind.u64.max = 18446744073709551615 := by decide
        rw [e2] at this
        omega
    case round =>
      obtain ⟨k, x, l', rfl, hx0, hk, hown, hV, hP⟩ := hrel
      clear hb
      by_cases hx : x ≤ 127
      · go_wp2
        go_meet
        case rel => exact ⟨x, l', rfl, hx0, hx, hown, ⟨by rw [← hV.out, putN_end k x hx]⟩, hP⟩
      · have hx1 : 127 < x := by omega
        obtain ⟨k, rfl⟩ : ∃ j, k = j + 1 := by
          cases k with
          | zero => have := hk.out; simp at this; omega
          | succ j => exact ⟨j, rfl⟩
        have hlen : l'.length + 1 ≤ 100000000000000 := by
          have := congrArg List.length hV.out
          rw [putN_more k x hx1] at this
          simp at this
          omega
        have hsz := hP.size
        go_wp2_with (at_builtin; refine wpList_append_own _ rfl _ _ 22 rfl C 5 iB (.int .u8 0) 1 1 Tryd.underlying22 hiB hzB hsB hbB rfl (by decide) _ _ _ rfl (hown.alloc _) ⟨wr.heap.size, 0, none⟩ 1 1 [.int .u8 (bits .or .u8 (x % 256) 128)] rfl rfl ?c1 ?c2 ?c3 ?c4 ?c5 ?_)
        case c2 => first | (simp [Value.oneCell']; done) | (intro u hu; simp at hu; subst hu; rfl)
        case c3 => unfold maxLen; omega
        case c4 => omega
        case c5 => first | omega | (simp; omega)
        intro v' w2 hown' hgrow _
        have hP2 := (hP.trans (Puts.alloc C wr _)).trans (Puts.grown (hown.alloc _) hgrow)
        go_wp2_with fail
        refine ⟨⟨k, x / 128, l' ++ [bits .or .u8 (x % 256) 128], rfl, by omega, ⟨?_⟩, ?_, ⟨?_⟩, hP2⟩, ?_⟩
        · have := hk.out
          rw [Int.pow_succ] at this
          exact Int.ediv_lt_of_lt_mul (by decide) this
        · rw [bCells_append]
          simpa [bCells] using hown'
        · rw [← hV.out, putN_more k x hx1]
          simp
        · simp [RowKit.intOf]
          omega
  case rest =>
    obtain ⟨x, l', rfl, hx0, hx1, hown, hV, hP⟩ := hcut
    rename World => wr
    have hlen : l'.length + 1 ≤ 100000000000000 := by
      have := congrArg List.length hV.out
      simp at this
      omega
    have hsz := hP.size
    go_wp2_with (at_builtin; refine wpList_append_own _ rfl _ _ 22 rfl C 5 iB (.int .u8 0) 1 1 Tryd.underlying22 hiB hzB hsB hbB rfl (by decide) _ _ _ rfl (hown.alloc _) ⟨wr.heap.size, 0, none⟩ 1 1 [.int .u8 (x)] rfl rfl ?d1 ?d2 ?d3 ?d4 ?d5 ?_)
    case d1 => exact World.news_of_block (cs := #[.int .u8 x]) (t := 5) (fr := (0, 0)) (heap_alloc_new wr _)
    case d2 => first | (simp [Value.oneCell']; done) | (intro u hu; simp at hu; subst hu; rfl)
    case d3 => unfold maxLen; omega
    case d4 => omega
    case d5 => first | omega | (simp; omega)
    intro v' w2 hown' hgrow _
    have hP2 := (hP.trans (Puts.alloc C _ _)).trans (Puts.grown (hown.alloc _) hgrow)
    go_wp2
    go_ret
    refine ⟨v', rfl, ?_, hP2⟩
    rw [← hV.out, bCells_append]
    simpa [bCells] using hown'
end Go.Proofs.YtfdkdghhdigfbaaDoor
