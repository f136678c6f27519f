/- The memory at a call's beginning, where a slice came in; unknown texts and slices. -/
import Derived.Test.YtokiabfhdicfoaaEvX
namespace Ev
open Go Go.RowKit

noncomputable def phiA (sy : Sy) (L : Option Loc) : Phi := fun b => if b < glob then some ⟨b, 0, sy.gr b⟩ else if b = glob then L else none

theorem rel_none {sy : Sy} {w : World} (hg : glob ≤ w.heap.size) : Rel sy (fun k => k < w.heap.size) (phiA sy none) ⟨.leaf, glob, glob⟩ w := by
  refine rel_init [] (fun g hh => if_pos hh) (fun b L h => ?_) (fun b x h => by cases h) (fun b b' x x' L L' h => by cases h)
  unfold phiA at h
  by_cases hb : b < glob
  · rw [if_pos hb] at h
    obtain rfl := Option.some.inj h
    exact ⟨hb, by simp only; omega⟩
  · rw [if_neg hb] at h
    by_cases hb' : b = glob
    · rw [if_pos hb'] at h; cases h
    · rw [if_neg hb'] at h; cases h

theorem rel_row {sy : Sy} {w : World} (hg : glob ≤ w.heap.size) {C : Array Value} {et : TypeId} {fz : Nat × Nat} (L : Loc) (hb : w.heap[L.blk]? = some (.cells C et fz)) (hroom : L.base + L.room = C.size) {es n : Nat} {t : T (List V)} (hpos : 0 < es) (hext : es * n ≤ L.room)
    (hel : ∀ i, i < n → ∃ l, t.get i = some l ∧ l.length = es ∧ ∀ (j : Nat) (v : V), l[j]? = some v → v.flat = true ∧ ∃ u, C[L.base + (i * es + j)]? = some u ∧ VR sy (phiA sy (some L)) v u) :
    Rel sy (fun k => k < w.heap.size) (phiA sy (some L)) ⟨ofL [(glob, .cells es n t true 1)], glob + 1, glob + 1⟩ w := by
  have hblk : L.blk < w.heap.size := (Array.getElem?_eq_some_iff.1 hb).1
  have hL : phiA sy (some L) glob = some L := by unfold phiA; rw [if_neg (by omega), if_pos rfl]
  refine rel_init [(glob, .cells es n t true 1)] (fun g hh => if_pos hh) (fun b M h => ?_) (fun b x h => ?_) (fun b b' x x' M M' h h' _ _ hne => ?_)
  · unfold phiA at h
    by_cases hb : b < glob
    · rw [if_pos hb] at h
      obtain rfl := Option.some.inj h
      exact ⟨by omega, by simp only; omega⟩
    · rw [if_neg hb] at h
      by_cases hb' : b = glob
      · rw [if_pos hb'] at h
        obtain rfl := Option.some.inj h
        exact ⟨by omega, hblk⟩
      · rw [if_neg hb'] at h; cases h
  · obtain ⟨rfl, rfl⟩ := Prod.mk.inj (List.mem_singleton.1 h)
    refine ⟨L, hL, ⟨⟨et, ?_⟩, fun h => h.elim, fun h => absurd rfl h, fun h => absurd h (by omega), hpos, hext, fun i hi => ?_⟩⟩
    · unfold World.shape?
      simp only [hb, hroom]
    · obtain ⟨l, h1, h2, h3⟩ := hel i hi
      refine ⟨l, h1, h2, fun j v hj => ?_⟩
      obtain ⟨h4, u, h5, h6⟩ := h3 j v hj
      refine ⟨h4, u, ?_, h6⟩
      unfold World.cell?
      simp only [hb]
      simpa using h5
  · obtain ⟨rfl, _⟩ := Prod.mk.inj (List.mem_singleton.1 h)
    obtain ⟨rfl, _⟩ := Prod.mk.inj (List.mem_singleton.1 h')
    exact absurd rfl hne

/-- Where a block's cells lie. -/
theorem row_of_cell {w : World} {a : Addr} {u : Value} (h : w.cell? a = some u) : a.spot = none ∧ ∃ C et fz, w.heap[a.block]? = some (.cells C et fz) ∧ C[a.off]? = some u := by
  unfold World.cell? at h
  split at h
  · rename_i C et fz hb
    split at h
    · cases h
    · rename_i hs
      refine ⟨by cases hh : a.spot with
        | none => rfl
        | some x => rw [hh] at hs; exact absurd rfl hs, C, et, fz, hb, h⟩
  · cases h

/-- So many bytes. -/
def dummy (n : Nat) : ByteArray := ⟨(List.replicate n 0).toArray⟩
theorem dummy_size (n : Nat) : (dummy n).size = n := by
  show (List.replicate n (0 : UInt8)).toArray.size = n
  simp

theorem call_trueS {sy : Sy} {C : Cx} {P : Program} (hP : C.P = P) (hmx : P.follows .mixedOrders = true) (hov : ∀ N, OvOk sy N P C.ov) {m g : Nat} {vs : List V} {s : S} (h : isT ((ev C m).call g vs s) = true) {args : Array Value} {W : World} {φ : Phi}
    (hr : Rel sy (fun k => k < W.heap.size) φ s W) (hv : VRs sy φ vs args.toList) : Calls P g args W fun e W' => e = .returned (.bool true) ∧ Keeps (fun k => k < W.heap.size) W W' := by
  obtain ⟨s', h⟩ := isT_val h
  refine (ev_call hP hmx hov h hr hv).mono fun e W' ⟨V', ψ, he, hx, hV⟩ => ?_
  cases hV
  exact ⟨he, hx.low⟩
end Ev
