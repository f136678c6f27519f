/- What is read stays so where more stands behind it; what is read fits. -/
import Derived.Test.YtfdkdghhdigfbaaDoorCi
namespace Go.Proofs.YtfdkdghhdigfbaaDoor
open Go Go.RowKit

/-- A reader: with more behind it reads the same; what it reads has a property. -/
structure Par {α : Type} (P : St → α × St) (φ : α → Prop) : Prop where
  non : (P none).2 = none
  back : ∀ l r, (P (some l)).2 = some r → r.length ≤ l.length
  more : ∀ l r m, (P (some l)).2 = some r → P (some (l ++ m)) = ((P (some l)).1, some (r ++ m))
  fit : ∀ l r, l.length ≤ 3000 → (P (some l)).2 = some r → φ (P (some l)).1

theorem Par.got {α : Type} {P : St → α × St} {φ : α → Prop} (h : Par P φ) {st : St} {r : List UInt8} (hr : (P st).2 = some r) : ∃ l, st = some l ∧ r.length ≤ l.length := by
  cases st with
  | none => rw [h.non] at hr; cases hr
  | some l => exact ⟨l, rfl, h.back l r hr⟩
theorem Par.same {α : Type} {P P' : St → α × St} {φ : α → Prop} (h : Par P φ) (h1 : ∀ l, P' (some l) = P (some l)) (h2 : (P' none).2 = none) : Par P' φ :=
  ⟨h2, fun l r hr => h.back l r (by rw [← h1]; exact hr), fun l r m hr => by rw [h1, h1]; exact h.more l r m (by rw [← h1]; exact hr), fun l r hl hr => by rw [h1]; exact h.fit l r hl (by rw [← h1]; exact hr)⟩
theorem Par.map {α β : Type} {P : St → α × St} {φ : α → Prop} (h : Par P φ) (f : α → β) {ψ : β → Prop} (hf : ∀ a, φ a → ψ (f a)) : Par (fun st => (f (P st).1, (P st).2)) ψ :=
  ⟨h.non, h.back, fun l r m hr => by rw [h.more l r m hr], fun l r hl hr => hf _ (h.fit l r hl hr)⟩
theorem Par.dep {α β : Type} {P : St → α × St} {φ : α → Prop} (h : Par P φ) {Q : α → St → β × St} {ψ : α → β → Prop} (k : ∀ a, Par (Q a) (ψ a)) : Par (fun st => (((P st).1, (Q (P st).1 (P st).2).1), (Q (P st).1 (P st).2).2)) (fun x => φ x.1 ∧ ψ x.1 x.2) := by
  refine ⟨?_, fun l r hr => ?_, fun l r m hr => ?_, fun l r hl hr => ?_⟩
  · show (Q _ (P none).2).2 = none
    rw [h.non]
    exact (k _).non
  · obtain ⟨l1, e1, h1⟩ := (k _).got hr
    exact Nat.le_trans h1 (h.back l l1 e1)
  · obtain ⟨l1, e1, h1⟩ := (k _).got hr
    have hr' : (Q (P (some l)).1 (some l1)).2 = some r := by rw [← e1]; exact hr
    simp only [h.more l l1 m e1, (k _).more l1 r m hr', e1]
  · obtain ⟨l1, e1, h1⟩ := (k _).got hr
    have hr' : (Q (P (some l)).1 (some l1)).2 = some r := by rw [← e1]; exact hr
    refine ⟨h.fit l l1 hl e1, ?_⟩
    simp only [e1]
    exact (k _).fit l1 r (Nat.le_trans (h.back l l1 e1) hl) hr'
theorem Par.both {α β : Type} {P : St → α × St} {φ : α → Prop} (h : Par P φ) {Q : St → β × St} {ψ : β → Prop} (k : Par Q ψ) : Par (fun st => (((P st).1, (Q (P st).2).1), (Q (P st).2).2)) (fun x => φ x.1 ∧ ψ x.2) :=
  h.dep (Q := fun _ => Q) (ψ := fun _ => ψ) fun _ => k

theorem numL_more' : ∀ (l : List UInt8) (i : Nat) (X : Int) (n : Int) (r m : List UInt8), numL i X l = some (n, r) → numL i X (l ++ m) = some (n, r ++ m) ∧ r.length ≤ l.length := by
  intro l
  induction l with
  | nil => intro i X n r m h; cases h
  | cons c l ih =>
    intro i X n r m h
    rw [List.cons_append]
    unfold numL at h ⊢
    split at h
    · cases h
    · rename_i h1
      rw [if_neg h1]
      split at h
      · rename_i h2
        rw [if_pos h2]
        simp only [Option.some.injEq, Prod.mk.injEq] at h
        obtain ⟨rfl, rfl⟩ := h
        exact ⟨rfl, by simp⟩
      · rename_i h2
        rw [if_neg h2]
        obtain ⟨e1, e2⟩ := ih _ _ _ _ m h
        exact ⟨e1, by simp; omega⟩
theorem nZ_in (X : Int) : I64 (nZ X) := by
  have := bits_within .xor .i64 (wrap64 (X / 2)) (wrap64 (-wrap64 (bits .and .u64 X 1)))
  exact this
theorem numL_in : ∀ (l : List UInt8) (i : Nat) (X : Int) (n : Int) (r : List UInt8), numL i X l = some (n, r) → I64 n := by
  intro l
  induction l with
  | nil => intro i X n r h; cases h
  | cons c l ih =>
    intro i X n r h
    unfold numL at h
    split at h
    · cases h
    · split at h
      · simp only [Option.some.injEq, Prod.mk.injEq] at h
        rw [← h.1]
        exact nZ_in _
      · exact ih _ _ _ _ h
theorem numS_eq {l : List UInt8} {n : Int} {r : List UInt8} (e : numL 0 0 l = some (n, r)) : numS (some l) = (n, some r) := by
  unfold numS
  simp only [e]
theorem num_key {l r : List UInt8} (hr : (numS (some l)).2 = some r) : ∃ n, numL 0 0 l = some (n, r) := by
  cases e : numL 0 0 l with
  | none =>
    unfold numS at hr
    simp only [e] at hr
    cases hr
  | some p =>
    obtain ⟨n, r'⟩ := p
    rw [numS_eq e] at hr
    cases hr
    exact ⟨n, rfl⟩
theorem num_par : Par numS I64 := by
  refine ⟨rfl, fun l r hr => ?_, fun l r m hr => ?_, fun l r _ hr => ?_⟩
  · obtain ⟨n, e⟩ := num_key hr
    exact (numL_more' l 0 0 n r [] e).2
  · obtain ⟨n, e⟩ := num_key hr
    rw [numS_eq e, numS_eq (numL_more' l 0 0 n r m e).1]
  · obtain ⟨n, e⟩ := num_key hr
    rw [numS_eq e]
    exact numL_in l 0 0 n r e
theorem in_par (a b : Int) : Par (inS a b) (fun n => a ≤ n ∧ n ≤ b) := by
  have key : ∀ l r, (inS a b (some l)).2 = some r → (numS (some l)).2 = some r ∧ ¬ ((numS (some l)).1 < a ∨ b < (numS (some l)).1) ∧ (inS a b (some l)).1 = (numS (some l)).1 := by
    intro l r hr
    unfold inS at hr ⊢
    generalize numS (some l) = p at hr
    obtain ⟨n, s⟩ := p
    cases s with
    | none => cases hr
    | some l' =>
      dsimp only at hr ⊢
      split at hr
      · cases hr
      · rename_i hc
        rw [if_neg hc]
        exact ⟨hr, hc, rfl⟩
  refine ⟨rfl, fun l r hr => num_par.back l r (key l r hr).1, fun l r m hr => ?_, fun l r _ hr => ?_⟩
  · obtain ⟨h1, h2, h3⟩ := key l r hr
    rw [h3]
    unfold inS
    rw [num_par.more l r m h1]
    simp only [if_neg h2]
  · exact inS_in hr
theorem count_par (b : Int) : Par (countS b) (fun n => 0 ≤ n ∧ n ≤ 3000) := by
  have key : ∀ l r, (countS b (some l)).2 = some r → (inS 0 b (some l)).2 = some r ∧ ¬ (r.length : Int) < (inS 0 b (some l)).1 ∧ (countS b (some l)).1 = (inS 0 b (some l)).1 := by
    intro l r hr
    unfold countS at hr ⊢
    generalize inS 0 b (some l) = p at hr
    obtain ⟨n, s⟩ := p
    cases s with
    | none => cases hr
    | some l' =>
      dsimp only at hr ⊢
      split at hr
      · cases hr
      · rename_i hc
        simp only [Option.some.injEq] at hr
        subst hr
        rw [if_neg hc]
        exact ⟨rfl, hc, rfl⟩
  refine ⟨rfl, fun l r hr => (in_par 0 b).back l r (key l r hr).1, fun l r m hr => ?_, fun l r hl hr => ?_⟩
  · obtain ⟨h1, h2, h3⟩ := key l r hr
    rw [h3]
    unfold countS
    rw [(in_par 0 b).more l r m h1]
    have h4 : ¬ ((r ++ m).length : Int) < (inS 0 b (some l)).1 := by simp; omega
    simp only [if_neg h4]
  · obtain ⟨h1, h2, h3⟩ := key l r hr
    rw [h3]
    have h4 := (in_par 0 b).fit l r hl h1
    have h5 := (in_par 0 b).back l r h1
    exact ⟨h4.1, by omega⟩
theorem text_par : Par textS (fun s => s.size ≤ 3000) := by
  have key : ∀ l r, (textS (some l)).2 = some r → ∃ l1, (countS 65536 (some l)).2 = some l1 ∧ r = l1.drop (countS 65536 (some l)).1.toNat ∧ (textS (some l)).1 = txt (l1.take (countS 65536 (some l)).1.toNat) ∧ (countS 65536 (some l)).1.toNat ≤ l1.length := by
    intro l r hr
    have hin := fun l1 => countS_in (m := 65536) (st := some l) (l := l1)
    unfold textS at hr ⊢
    generalize countS 65536 (some l) = p at hr hin
    obtain ⟨n, s⟩ := p
    cases s with
    | none => cases hr
    | some l' =>
      simp only [Option.some.injEq] at hr
      obtain ⟨k, hk, hk2⟩ := hin l' rfl
      exact ⟨l', rfl, hr.symm, rfl, by dsimp only at hk ⊢; omega⟩
  refine ⟨rfl, fun l r hr => ?_, fun l r m hr => ?_, fun l r hl hr => ?_⟩
  · obtain ⟨l1, h1, h2, _, _⟩ := key l r hr
    have := (count_par 65536).back l l1 h1
    rw [h2]
    simp only [List.length_drop]
    omega
  · obtain ⟨l1, h1, h2, h3, h4⟩ := key l r hr
    rw [h3]
    unfold textS
    rw [(count_par 65536).more l l1 m h1]
    simp only [List.take_append_of_le_length h4, List.drop_append_of_le_length h4, h2]
  · obtain ⟨l1, h1, h2, h3, h4⟩ := key l r hr
    have := (count_par 65536).back l l1 h1
    rw [h3, txt_size, List.length_take]
    omega

def ListFit {α : Type} (n : Nat) (φ : α → Prop) (l : List α) : Prop := l.length ≤ n ∧ ∀ x ∈ l, φ x
theorem ListFit.nil {α : Type} (n : Nat) (φ : α → Prop) : ListFit n φ [] := ⟨Nat.zero_le _, fun _ h => by cases h⟩
theorem ListFit.cons {α : Type} {n : Nat} {φ : α → Prop} {x : α} {l : List α} (hx : φ x) (h : ListFit n φ l) : ListFit (n + 1) φ (x :: l) :=
  ⟨Nat.succ_le_succ h.1, fun y hy => by
    rcases List.mem_cons.1 hy with e | hy
    · rw [e]; exact hx
    · exact h.2 y hy⟩
theorem nil_par {α : Type} (φ : α → Prop) : Par (fun st => (([] : List α), st)) (ListFit 0 φ) :=
  ⟨rfl, fun l r hr => by cases hr; exact Nat.le_refl _, fun l r m hr => by cases hr; rfl, fun _ _ _ _ => ListFit.nil _ _⟩

abbrev VFit (v : Int × Int) : Prop := (0 ≤ v.1 ∧ v.1 ≤ 2) ∧ I64 v.2
abbrev AFit (a : Int × Int × Int × Int) : Prop := (0 ≤ a.1 ∧ a.1 ≤ 3) ∧ (0 ≤ a.2.1 ∧ a.2.1 ≤ 262144) ∧ (0 ≤ a.2.2.1 ∧ a.2.2.1 ≤ 262144) ∧ I64 a.2.2.2
theorem vals_par : ∀ n, Par (valsS n) (ListFit n VFit)
  | 0 => nil_par _
  | n + 1 => (((((in_par 0 2).both num_par).both (vals_par n)).map (fun x => (x.1.1, x.1.2) :: x.2) fun _ h => ListFit.cons ⟨h.1.1, h.1.2⟩ h.2)).same (fun _ => rfl) rfl
theorem alts_par : ∀ n, Par (altsS n) (ListFit n AFit)
  | 0 => nil_par _
  | n + 1 => ((((((in_par 1 3).both (in_par 0 262144)).both (in_par 0 262144)).both num_par).both (alts_par n)).map (fun x => (x.1.1.1.1, x.1.1.1.2, x.1.1.2, x.1.2) :: x.2) (ψ := ListFit (n + 1) AFit) fun _ h => ListFit.cons (φ := AFit) ⟨⟨by have := h.1.1.1.1.1; omega, h.1.1.1.1.2⟩, h.1.1.1.2, h.1.1.2, h.1.2⟩ h.2).same (fun _ => rfl) rfl
theorem ins_par : Par insS FitIns := by
  have h := ((((((((((in_par 0 12).both (in_par 0 262144)).both (in_par 0 262144)).both (in_par 0 262144)).both num_par).both text_par).both (count_par 262144)).dep (Q := fun x => valsS x.2.toNat) fun x => vals_par x.2.toNat).both (count_par 60)).dep (Q := fun x => altsS x.2.toNat) fun x => alts_par x.2.toNat)
  refine (h.map (fun x => (⟨x.1.1.1.1.1.1.1.1.1, x.1.1.1.1.1.1.1.1.2, x.1.1.1.1.1.1.1.2, x.1.1.1.1.1.1.2, x.1.1.1.1.1.2, x.1.1.1.1.2, x.1.1.2, x.2⟩ : InsD)) (ψ := FitIns) ?_).same (fun _ => rfl) (by exact h.non)
  rintro ⟨⟨⟨⟨⟨⟨⟨⟨⟨op, dst⟩, tag⟩, fn⟩, n⟩, prim⟩, nv⟩, vals⟩, na⟩, alts⟩ ⟨⟨⟨⟨⟨⟨⟨⟨⟨h1, h2⟩, h3⟩, h4⟩, h5⟩, h6⟩, h7⟩, h8⟩, h9⟩, h10⟩
  dsimp only at h7 h8 h9 h10
  exact ⟨h1, h2, h3, h4, h5, h6, by have := h8.1; dsimp only; omega, by have := h10.1; dsimp only; omega, h8.2, h10.2⟩
theorem tags_par : ∀ n, Par (tagsS n) (ListFit n FitTag)
  | 0 => nil_par _
  | n + 1 => ((((((in_par 1 6).both text_par).both (in_par 0 262144)).both (in_par 0 60)).both (tags_par n)).map (fun x => (⟨x.1.1.1.1, x.1.1.1.2, x.1.1.2, x.1.2⟩ : TagD) :: x.2) (ψ := ListFit (n + 1) FitTag) fun _ h => ListFit.cons ⟨⟨by have := h.1.1.1.1.1; dsimp only; omega, h.1.1.1.1.2⟩, h.1.1.1.2, h.1.1.2, h.1.2⟩ h.2).same (fun _ => rfl) rfl
theorem funs_par : ∀ n, Par (funsS n) (ListFit n FitFun)
  | 0 => nil_par _
  | n + 1 => (((((in_par 0 262144).both (in_par 0 524288)).both (in_par 0 262144)).both (funs_par n)).map (fun x => (⟨x.1.1.1, x.1.1.2, x.1.2⟩ : FunD) :: x.2) (ψ := ListFit (n + 1) FitFun) fun _ h => ListFit.cons ⟨h.1.1.1, h.1.1.2, h.1.2⟩ h.2).same (fun _ => rfl) rfl
theorem alli_par : ∀ n, Par (allIns n) (ListFit n FitIns)
  | 0 => nil_par _
  | n + 1 => ((ins_par.both (alli_par n)).map (fun x => x.1 :: x.2) (ψ := ListFit (n + 1) FitIns) fun _ h => ListFit.cons h.1 h.2).same (fun _ => rfl) rfl
theorem all_par : Par allS FitD := by
  have h := ((((((count_par 262144).dep (Q := fun x => tagsS x.toNat) fun x => tags_par x.toNat).both (count_par 262144)).dep (Q := fun x => funsS x.2.toNat) fun x => funs_par x.2.toNat).both (in_par 0 262144)).both (count_par 262144)).dep (Q := fun x => allIns x.2.toNat) fun x => alli_par x.2.toNat
  refine (h.map (fun x => (⟨x.1.1.1.1.1.2, x.1.1.1.2, x.2, x.1.1.2⟩ : CodeD)) (ψ := FitD) ?_).same (fun _ => rfl) (by exact h.non)
  rintro ⟨⟨⟨⟨⟨⟨nt, T⟩, nf⟩, F⟩, mn⟩, ni⟩, I⟩ ⟨⟨⟨⟨⟨⟨h1, h2⟩, h3⟩, h4⟩, h5⟩, h6⟩, h7⟩
  dsimp only at h1 h2 h3 h4 h5 h6 h7
  exact ⟨by have := h2.1; dsimp only; omega, by have := h4.1; dsimp only; omega, by have := h7.1; dsimp only; omega, h5, h2.2, h4.2, h7.2⟩
end Go.Proofs.YtfdkdghhdigfbaaDoor
