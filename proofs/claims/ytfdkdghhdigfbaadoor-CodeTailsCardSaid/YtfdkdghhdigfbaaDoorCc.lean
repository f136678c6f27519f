/- A text is read. -/
import Derived.Test.YtfdkdghhdigfbaaDoorCb
import Derived.Laws.BytesString
import Derived.Laws.Cells
namespace Go.Proofs.YtfdkdghhdigfbaaDoor
open Go Go.RowKit
set_option maxRecDepth 100000

/-- Bytes as a text. -/
def txt (l : List UInt8) : ByteArray := (l.map fun b => (b.toNat : Int)).foldl (fun r n => r.push (UInt8.ofNat n.toNat)) ByteArray.empty

theorem push_size (l : List Int) : ∀ s : ByteArray, (l.foldl (fun r n => r.push (UInt8.ofNat n.toNat)) s).size = s.size + l.length := by
  induction l with
  | nil => intro s; rfl
  | cons n l ih =>
    intro s
    rw [List.foldl_cons, ih, ByteArray.size_push, List.length_cons]
    omega
theorem txt_size (l : List UInt8) : (txt l).size = l.length := by
  unfold txt
  rw [push_size, List.length_map]
  exact Nat.zero_add _

theorem conv_txt {w : World} {g o cap : Nat} {l : List UInt8} (h : ∀ j (h : j < l.length), w.cell? ⟨g, o + j, none⟩ = some (.int .u8 (l[j].toNat : Int))) (n : Nat) (hn : n ≤ l.length) :
    (convert 22 9 (.slice (some ⟨g, o, none⟩) n cap)).run Tryd.prog w = .ok (.string (txt (l.take n))) w := by
  rw [run_convert_bytes_string w 22 9 5 _ _ _ Tryd.underlying22 Tryd.underlying5 Tryd.underlying9]
  have hl : (loadCells ⟨g, o, none⟩ n).run Tryd.prog w = .ok (((l.take n).map fun b => (b.toNat : Int)).map (Value.int .u8)).toArray w := by
    have := run_loadCells_list (P := Tryd.prog) w ⟨g, o, none⟩ (((l.take n).map fun b => (b.toNat : Int)).map (Value.int .u8)) fun j v hv => by
      have hadd : (⟨g, o, none⟩ : Addr).add j = ⟨g, o + j, none⟩ := by unfold Addr.add; split <;> simp_all
      rw [List.getElem?_map, List.getElem?_map, List.getElem?_take] at hv
      split at hv
      · rename_i hj
        have hjl : j < l.length := by omega
        rw [hadd, h j hjl, ← hv, List.getElem?_eq_getElem hjl]
        rfl
      · cases hv
    rwa [List.length_map, List.length_map, List.length_take, Nat.min_eq_left hn] at this
  exact run_bytesToString w ⟨g, o, none⟩ n cap _ hl

theorem countS_zero {m : Int} {st : St} (h : (countS m st).2 = none) : (countS m st).1 = 0 := by
  unfold countS at h ⊢
  generalize inS 0 m st = p at h ⊢
  obtain ⟨n, s⟩ := p
  cases s with
  | none => rfl
  | some l =>
    dsimp only at h ⊢
    split at h
    · rename_i hc; rw [if_pos hc]
    · cases h
theorem countS_in {m : Int} {st : St} {l : List UInt8} (h : (countS m st).2 = some l) : ∃ n : Nat, (countS m st).1 = (n : Int) ∧ n ≤ l.length := by
  have hin := fun k => inS_in (a := 0) (b := m) (st := st) (l := k)
  unfold countS at h ⊢
  generalize inS 0 m st = p at h hin ⊢
  obtain ⟨n, s⟩ := p
  cases s with
  | none => cases h
  | some k =>
    have := hin k rfl
    dsimp only at h this ⊢
    split at h
    · cases h
    · rename_i hc
      rw [if_neg hc]
      obtain rfl : k = l := Option.some.inj h
      exact ⟨n.toNat, by dsimp only; omega, by omega⟩

def textS (st : St) : ByteArray × St := match countS 65536 st with
  | (n, some l) => (txt (l.take n.toNat), some (l.drop n.toNat))
  | (_, none) => (txt [], none)

theorem BsAt.drop {B : Nat} {w : World} {br g o cap : Nat} {l : List UInt8} (h1 : l.length ≤ cap) (h2 : g ≠ br) (h3 : g < B) (h4 : ∀ j (h : j < l.length), w.cell? ⟨g, o + j, none⟩ = some (.int .u8 (l[j].toNat : Int))) (n : Nat) (hn : n ≤ l.length) :
    (n = cap → BsAt B w br (.slice (some ⟨g, o, none⟩) 0 0) (l.drop n)) ∧ (n < cap → BsAt B w br (.slice (some ⟨g, o + n, none⟩) (l.length - n) (cap - n)) (l.drop n)) := by
  have hd : (l.drop n).length = l.length - n := List.length_drop
  refine ⟨fun h => ?_, fun h => ?_⟩
  · have hr : l.drop n = [] := List.length_eq_zero_iff.1 (by omega)
    rw [hr]
    exact ⟨g, o, 0, rfl, Nat.le_refl _, h2, h3, fun j hj => absurd hj (Nat.not_lt_zero _)⟩
  · refine ⟨g, o + n, cap - n, by rw [hd], by omega, h2, h3, fun j hj => ?_⟩
    rw [hd] at hj
    rw [Nat.add_assoc, h4 (n + j) (by omega), List.getElem_drop]

theorem text_call {B : Nat} (br : Nat) (st : St) (w : World) (h : At B w br st) :
    Calls Tryd.prog 20 #[.pointer (some ⟨br, 0, none⟩)] w fun e w' => e = .returned (.string (textS st).1) ∧ At B w' br (textS st).2 ∧ Stir br w w' := by
  have hn := count_call 65536 br st w h
  have hz := countS_zero (m := 65536) (st := st)
  have hi := fun l => countS_in (m := 65536) (st := st) (l := l)
  unfold textS
  generalize countS 65536 st = p at hn hz hi
  obtain ⟨n, s⟩ := p
  dsimp only at hz hi
  go_enter Tryd.func20, Tryd.ntmps20
  go_wp2_with fail
  go_at_call 18
  refine hn.mono ?_
  rintro e w1 ⟨rfl, hA, hS⟩
  have hlen := hA.len
  obtain ⟨v, er, hk, hx⟩ := hA.rd
  obtain ⟨b0, b1, bf⟩ := rd_cells hk
  have hbr := hA.hi
  rcases hx with ⟨l, rfl, rfl, hB⟩ | ⟨rfl, ⟨te, pe, rfl⟩, l, hB⟩
  · have hl := hlen l rfl
    obtain ⟨n, rfl, hnl⟩ := hi l rfl
    obtain ⟨g, o, cap, rfl, hcap, hg, hgs, hc⟩ := hB
    have hT := BsAt.drop hcap hg hgs hc n hnl
    have hcv := conv_txt (cap := cap) hc n hnl
    have hcv0 : (l.drop n).length ≤ 3000 := by rw [List.length_drop]; omega
    clear hi hz hlen hc h hn
    rcases Nat.lt_or_eq_of_le (Nat.le_trans hnl hcap) with hlt | rfl
    · have hN := At.next hA.env hbr hA.lo hA.sz hk (hT.2 hlt) hcv0
      have hS2 := hS.trans (Stir.set br 0 w1 (.slice (some ⟨g, o + n, none⟩) (l.length - n) (cap - n)))
      clear hT hk hA
      go_wp2
      go_ret
      exact ⟨rfl, hN, hS2⟩
    · have hN := At.next hA.env hbr hA.lo hA.sz hk (hT.1 rfl) hcv0
      have hS2 := hS.trans (Stir.set br 0 w1 (.slice (some ⟨g, o, none⟩) 0 0))
      have hln : l.length = n := by omega
      clear hT hk hA
      go_wp2
      go_ret
      exact ⟨rfl, hN, hS2⟩
  · obtain rfl : n = 0 := hz rfl
    have hB2 := hB
    obtain ⟨g, o, cap, rfl, hcap, hg, hgs, hc⟩ := hB2
    have hcv := conv_txt (l := l) (cap := cap) hc 0 (Nat.zero_le _)
    have hT := BsAt.drop hcap hg hgs hc 0 (Nat.zero_le _)
    clear hi hz hlen hc
    have hN : At B (w1.setCell ⟨br, 0, none⟩ (.slice (some ⟨g, o, none⟩) l.length cap)) br none :=
      have hs := Stir.set br 0 w1 (.slice (some ⟨g, o, none⟩) l.length cap)
      ⟨hA.env.stir hbr hs, hbr, hA.lo, Nat.le_trans hA.sz hs.size, ⟨_, _, set0 hk _, .inr ⟨rfl, ⟨te, pe, rfl⟩, l, hB.stir hA.sz hs⟩⟩, fun _ h => by cases h⟩
    have hS2 := hS.trans (Stir.set br 0 w1 (.slice (some ⟨g, o, none⟩) l.length cap))
    go_wp2
    go_ret
    exact ⟨rfl, hN, hS2⟩
end Go.Proofs.YtfdkdghhdigfbaaDoor
