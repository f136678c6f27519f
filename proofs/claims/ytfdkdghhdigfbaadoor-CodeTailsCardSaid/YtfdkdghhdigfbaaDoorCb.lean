/- A number of a range; how many; a text. -/
import Derived.Test.YtfdkdghhdigfbaaDoorCa
namespace Go.Proofs.YtfdkdghhdigfbaaDoor
open Go Go.RowKit
set_option maxRecDepth 100000

def inS (a b : Int) (st : St) : Int × St := match numS st with
  | (n, some l) => if n < a ∨ b < n then (0, none) else (n, some l)
  | (_, none) => (0, none)

theorem in_none (a b n : Int) (br : Nat) (w w1 : World) (h1 : Calls Tryd.prog 25 #[.pointer (some ⟨br, 0, none⟩)] w fun e w' => e = .returned (.int .i64 n) ∧ w' = w1) (te : TypeId) (pe : Value) (c1 : w1.cell? ⟨br, 1, none⟩ = some (.iface te pe)) :
    Calls Tryd.prog 19 #[.pointer (some ⟨br, 0, none⟩), .int .i64 a, .int .i64 b] w fun e w' => e = .returned (.int .i64 0) ∧ w' = w1 := by
  go_enter Tryd.func19, Tryd.ntmps19
  go_wp2_with (go_at_call 25; refine h1.mono ?_; rintro e w' ⟨rfl, rfl⟩)
  go_ret
  exact ⟨rfl, rfl⟩

theorem in_call {B : Nat} (a b : Int) (br : Nat) (st : St) (w : World) (h : At B w br st) :
    Calls Tryd.prog 19 #[.pointer (some ⟨br, 0, none⟩), .int .i64 a, .int .i64 b] w fun e w' => e = .returned (.int .i64 (inS a b st).1) ∧ At B w' br (inS a b st).2 ∧ Stir br w w' := by
  have hn := num_call br st w h
  unfold inS
  generalize numS st = p at hn
  obtain ⟨n, s⟩ := p
  go_enter Tryd.func19, Tryd.ntmps19
  go_wp2_with fail
  go_at_call 25
  refine hn.mono ?_
  rintro e w1 ⟨rfl, hA, hS⟩
  obtain ⟨v, er, hk, hx⟩ := hA.rd
  obtain ⟨b0, b1, bf⟩ := rd_cells hk
  have hbr := hA.hi
  have z1 : ¬ br = 2 := by omega
  have z2 : ¬ 2 = br := by omega
  obtain ⟨t2, p2, e2⟩ := hA.env.2 2 (by decide)
  rcases hx with ⟨l, rfl, rfl, hB⟩ | ⟨rfl, ⟨te, pe, rfl⟩, _⟩
  · have hF := At.err hA.env hbr hA.lo hA.sz hk hB t2 p2
    have hS2 := hS.trans (Stir.set br 1 w1 (.iface t2 p2))
    clear hB hk
    by_cases hr : n < a ∨ b < n
    · rcases Int.lt_or_le n a with h1 | h1
      · go_wp2
        all_goals first | (exfalso; omega) | skip
        go_ret
        exact ⟨rfl, hF, hS2⟩
      · have h2 : b < n := by omega
        go_wp2
        all_goals first | (exfalso; omega) | skip
        go_ret
        exact ⟨rfl, hF, hS2⟩
    · have h1 : a ≤ n := by omega
      have h2 : n ≤ b := by omega
      go_wp2
      all_goals first | (exfalso; omega) | skip
      go_ret
      exact ⟨rfl, hA, hS⟩
  · go_wp2
    go_ret
    exact ⟨rfl, hA, hS⟩

theorem inS_zero {a b : Int} {st : St} (h : (inS a b st).2 = none) : (inS a b st).1 = 0 := by
  unfold inS at h ⊢
  generalize numS st = p at h ⊢
  obtain ⟨n, s⟩ := p
  cases s with
  | none => rfl
  | some l =>
    dsimp only at h ⊢
    split at h
    · rename_i hc; rw [if_pos hc]
    · cases h
theorem inS_in {a b : Int} {st : St} {l : List UInt8} (h : (inS a b st).2 = some l) : a ≤ (inS a b st).1 ∧ (inS a b st).1 ≤ b := by
  unfold inS at h ⊢
  generalize numS st = p at h ⊢
  obtain ⟨n, s⟩ := p
  cases s with
  | none => cases h
  | some l =>
    dsimp only at h ⊢
    split at h
    · cases h
    · rename_i hc; rw [if_neg hc]; dsimp only; omega

def countS (m : Int) (st : St) : Int × St := match inS 0 m st with
  | (n, some l) => if (l.length : Int) < n then (0, none) else (n, some l)
  | (_, none) => (0, none)

theorem count_call {B : Nat} (m : Int) (br : Nat) (st : St) (w : World) (h : At B w br st) :
    Calls Tryd.prog 18 #[.pointer (some ⟨br, 0, none⟩), .int .i64 m] w fun e w' => e = .returned (.int .i64 (countS m st).1) ∧ At B w' br (countS m st).2 ∧ Stir br w w' := by
  have hn := in_call 0 m br st w h
  have hz := inS_zero (a := 0) (b := m) (st := st)
  have hi := fun l => inS_in (a := 0) (b := m) (st := st) (l := l)
  unfold countS
  generalize inS 0 m st = p at hn hz hi
  obtain ⟨n, s⟩ := p
  dsimp only at hz hi
  go_enter Tryd.func18, Tryd.ntmps18
  go_wp2_with fail
  go_at_call 19
  refine hn.mono ?_
  rintro e w1 ⟨rfl, hA, hS⟩
  have hlen := hA.len
  obtain ⟨v, er, hk, hx⟩ := hA.rd
  obtain ⟨b0, b1, bf⟩ := rd_cells hk
  have hbr := hA.hi
  have z1 : ¬ br = 0 := by omega
  have z2 : ¬ 0 = br := by omega
  obtain ⟨t2, p2, e2⟩ := hA.env.2 0 (by decide)
  rcases hx with ⟨l, rfl, rfl, hB⟩ | ⟨rfl, ⟨te, pe, rfl⟩, l, hB⟩
  · have hF := At.err hA.env hbr hA.lo hA.sz hk hB t2 p2
    have hS2 := hS.trans (Stir.set br 1 w1 (.iface t2 p2))
    have hl := hlen l rfl
    have hin := hi l rfl
    clear hi hz hlen
    obtain ⟨g, o, cap, rfl, hcap, hg, hgs, _⟩ := hB
    clear hk
    by_cases hr : (l.length : Int) < n
    · go_wp2
      all_goals first | (exfalso; omega) | skip
      go_ret
      exact ⟨rfl, hF, hS2⟩
    · have h2 : n ≤ (l.length : Int) := by omega
      go_wp2
      all_goals first | (exfalso; omega) | skip
      go_ret
      exact ⟨rfl, hA, hS⟩
  · obtain rfl : n = 0 := hz rfl
    obtain ⟨g, o, cap, rfl, hcap, hg, hgs, _⟩ := hB
    clear hi hz hlen
    go_wp2
    all_goals first | (exfalso; omega) | skip
    go_ret
    exact ⟨rfl, hA, hS⟩
end Go.Proofs.YtfdkdghhdigfbaaDoor
