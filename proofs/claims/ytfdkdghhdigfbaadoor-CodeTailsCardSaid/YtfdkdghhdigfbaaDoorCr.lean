/- A code's bytes: how many at most; each a byte. -/
import Derived.Test.YtfdkdghhdigfbaaDoorCq
import Derived.Test.YtfdkdghhdigfbaaDoorShelf
namespace Go.Proofs.YtfdkdghhdigfbaaDoor
open Go Go.RowKit

def IsByte (x : Int) : Prop := 0 ≤ x ∧ x < 256
theorem putN_bytes (k : Nat) : ∀ x : Int, 0 ≤ x → x < 128 ^ (k + 1) → ∀ y ∈ putN k x, IsByte y := by
  induction k with
  | zero =>
    intro x h0 h1 y hy
    simp [putN] at hy
    subst hy
    exact ⟨h0, by simp at h1; omega⟩
  | succ k ih =>
    intro x h0 h1 y hy
    unfold putN at hy
    split at hy
    · rcases List.mem_cons.1 hy with rfl | hy
      · have := bits_within .or .u8 (x % 256) 128
        exact ⟨this.1, by have h2 := this.2; have e : IntKind.u8.max = 255 := by decide
                          rw [e] at h2; omega⟩
      · refine ih (x / 128) (by omega) ?_ y hy
        rw [Int.pow_succ] at h1
        exact Int.ediv_lt_of_lt_mul (by decide) h1
    · simp at hy
      subst hy
      exact ⟨h0, by omega⟩
theorem putL_bytes (n : Int) : ∀ y ∈ putL n, IsByte y := by
  have h := bits_within .xor .u64 (IntKind.u64.wrap (IntKind.u64.wrap n * 2)) (IntKind.u64.wrap (n / 9223372036854775808))
  have e : (128 : Int) ^ (9 + 1) = 1180591620717411303424 := by decide
  have e2 : IntKind.u64.max = 18446744073709551615 := by decide
  have h1 := h.1
  have h2 := h.2
  rw [e2] at h2
  exact putN_bytes 9 (putX n) h1 (by rw [e]; unfold putX; omega)
theorem putsL_bytes (ns : List Int) : ∀ y ∈ putsL ns, IsByte y := by
  intro y hy
  obtain ⟨n, _, h⟩ := List.mem_flatMap.1 hy
  exact putL_bytes n y h
theorem textB_bytes (s : ByteArray) : ∀ y ∈ textB s, IsByte y := by
  intro y hy
  rcases List.mem_append.1 hy with h | h
  · exact putsL_bytes _ y h
  · obtain ⟨b, _, rfl⟩ := List.mem_map.1 h
    have := b.toNat_lt
    exact ⟨by omega, by omega⟩
theorem all_append {l m : List Int} (h : ∀ y ∈ l, IsByte y) (k : ∀ y ∈ m, IsByte y) : ∀ y ∈ l ++ m, IsByte y := by
  intro y hy
  rcases List.mem_append.1 hy with h1 | h1
  · exact h y h1
  · exact k y h1
theorem all_flat {α : Type} (f : α → List Int) (h : ∀ a, ∀ y ∈ f a, IsByte y) (l : List α) : ∀ y ∈ l.flatMap f, IsByte y := by
  intro y hy
  obtain ⟨a, _, h1⟩ := List.mem_flatMap.1 hy
  exact h a y h1
theorem bytesF_bytes (D : CodeD) : ∀ y ∈ bytesF D, IsByte y := by
  have ht : ∀ t, ∀ y ∈ tagBy t, IsByte y := fun t => all_append (putsL_bytes _) (all_append (textB_bytes _) (putsL_bytes _))
  have hf : ∀ t, ∀ y ∈ funBy t, IsByte y := fun t => putsL_bytes _
  have hv : ∀ t, ∀ y ∈ valBy t, IsByte y := fun t => all_append (putsL_bytes _) (putL_bytes _)
  have ha : ∀ t, ∀ y ∈ altBy t, IsByte y := fun t => all_append (putsL_bytes _) (putL_bytes _)
  have hi : ∀ t, ∀ y ∈ insBy t, IsByte y := fun t => all_append (putsL_bytes _) (all_append (putL_bytes _) (all_append (textB_bytes _) (all_append (putsL_bytes _) (all_append (all_flat _ hv _) (all_append (putsL_bytes _) (all_flat _ ha _))))))
  refine all_append (fun y hy => ?_) (all_append (putsL_bytes _) (all_append (all_flat _ ht _) (all_append (putsL_bytes _) (all_append (all_flat _ hf _) (all_append (putsL_bytes _) (all_flat _ hi _))))))
  simp at hy
  subst hy
  exact ⟨by decide, by decide⟩

theorem flat_len {α : Type} (f : α → List Int) (k : Nat) : ∀ l : List α, (∀ a ∈ l, (f a).length ≤ k) → (l.flatMap f).length ≤ l.length * k := by
  intro l
  induction l with
  | nil => intro _; simp
  | cons a l ih =>
    intro h
    rw [List.flatMap_cons, List.length_append, List.length_cons, Nat.succ_mul]
    have h1 := h a (List.mem_cons_self ..)
    have h2 := ih fun b hb => h b (List.mem_cons_of_mem _ hb)
    omega
theorem putsL_len (ns : List Int) : (putsL ns).length ≤ ns.length * 10 := flat_len putL 10 ns fun n _ => putL_length n
theorem textB_len (s : ByteArray) : (textB s).length ≤ 10 + s.size := by
  unfold textB
  rw [List.length_append, txtL_length]
  have := putsL_len [(s.size : Int)]
  simp at this
  omega
theorem bytesF_len (D : CodeD) (hF : FitD D) : (bytesF D).length ≤ 100000000000000 := by
  have ht : (D.tags.flatMap tagBy).length ≤ D.tags.length * 4000 := flat_len _ _ _ fun t h => by
    have h1 := (hF.tags t h).name
    have h2 := putsL_len [t.kind]
    have h3 := textB_len t.name
    have h4 := putsL_len [t.fn, t.n]
    simp only [List.length_cons, List.length_nil] at h2 h4
    simp only [tagBy, List.length_append]
    omega
  have hf : (D.funs.flatMap funBy).length ≤ D.funs.length * 30 := flat_len _ _ _ fun t _ => putsL_len [t.params, t.regs, t.at']
  have hi : (D.ins.flatMap insBy).length ≤ D.ins.length * 200000 := flat_len _ _ _ fun x h => by
    have h0 := hF.ins x h
    have h1 := h0.prim
    have h2 := putsL_len [x.op, x.dst, x.tag, x.fn]
    have h3 := textB_len x.prim
    have h4 := putsL_len [(x.vals.length : Int)]
    have h5 := putsL_len [(x.alts.length : Int)]
    have h6 := putL_length x.n
    have h7 : (x.vals.flatMap valBy).length ≤ x.vals.length * 20 := flat_len _ _ _ fun v _ => by
      have a1 := putsL_len [v.1]
      have a2 := putL_length v.2
      simp only [List.length_cons, List.length_nil] at a1
      simp only [valBy, List.length_append]
      omega
    have h8 : (x.alts.flatMap altBy).length ≤ x.alts.length * 40 := flat_len _ _ _ fun v _ => by
      have a1 := putsL_len [v.1, v.2.1, v.2.2.1]
      have a2 := putL_length v.2.2.2
      simp only [List.length_cons, List.length_nil] at a1
      simp only [altBy, List.length_append]
      omega
    have h9 := h0.vl
    have h10 := h0.al
    simp only [List.length_cons, List.length_nil] at h2 h4 h5
    simp only [insBy, List.length_append]
    omega
  have h1 := putsL_len [(D.tags.length : Int)]
  have h2 := putsL_len [(D.funs.length : Int)]
  have h3 := putsL_len [D.main, (D.ins.length : Int)]
  have h4 := hF.tl
  have h5 := hF.fl
  have h6 := hF.il
  simp only [List.length_cons, List.length_nil] at h1 h2 h3
  simp only [bytesF, List.length_append, List.length_cons, List.length_nil]
  omega
/-- Bytes that are these letters' numbers. -/
theorem bytes_eq {xs : List Int} {l : List UInt8} (hx : ∀ y ∈ xs, IsByte y) (h : Lib.bytesOf xs = l) : xs = l.map fun b => (b.toNat : Int) := by
  subst h
  unfold Lib.bytesOf
  rw [List.map_map]
  refine (List.map_id xs).symm.trans (List.map_congr_left fun y hy => ?_)
  obtain ⟨h1, h2⟩ := hx y hy
  simp only [id, Function.comp, UInt8.toNat_ofNat']
  rw [show (2 : Nat) ^ 8 = 256 from rfl]
  omega

end Go.Proofs.YtfdkdghhdigfbaaDoor
