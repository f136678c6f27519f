/- The evaluator is sound: slices, maps, conversions, rows of operations. -/
import Derived.Test.YtfdkdghhdigfbaaDoorEvV
import Derived.Laws.Slices
import Derived.Laws.MakeOwn
import Derived.MapKept
import Derived.Laws.IdiomStrings
import Derived.Lib.UnsafeStr
import Derived.Calls
import Derived.Laws.Externs
import Derived.Recover
namespace Ev
open Go Go.RowKit

section
variable {sy : Sy} {N0 : Nat → Prop} {P : Program} {φ : Phi} {s : S} {w : World}

/-- A bound that may be missing. -/
inductive OpR' (sy : Sy) (φ : Phi) : Option V → Option Value → Prop where
  | none : OpR' sy φ none none
  | some (v : V) (u : Value) (h : VR sy φ v u) : OpR' sy φ (some v) (some u)

theorem run_bounds (isSlice : Bool) (len cap : Nat) {LO HI MX : Option Value} {l h m : Nat} (hlo : (LO = none ∧ l = 0) ∨ ∃ k, LO = some (.int k (Int.ofNat l))) (hhi : (HI = none ∧ h = len) ∨ ∃ k, HI = some (.int k (Int.ofNat h)))
    (hmx : (MX = none ∧ m = cap) ∨ ((∃ k, MX = some (.int k (Int.ofNat m))) ∧ HI ≠ none)) (h1 : l ≤ h) (h2 : h ≤ m) (h3 : m ≤ cap) : (Instr.sliceBounds isSlice len cap LO HI MX).run P w = .ok (l, h, m) w := by
  have hb : ∀ (k : IntKind) (a b : Nat) (code : BoundsCode), a ≤ b → (Instr.sliceBound (.int k (Int.ofNat a)) b code).run P w = .ok a w := fun k a b code hab => by
    have := run_sliceBound (P := P) w k (Int.ofNat a) b code (by simp) (by simpa using hab)
    simpa using this
  rcases hmx with ⟨rfl, rfl⟩ | ⟨⟨k, rfl⟩, hne⟩
  · rcases hhi with ⟨rfl, rfl⟩ | ⟨k', rfl⟩
    · rcases hlo with ⟨rfl, rfl⟩ | ⟨k'', rfl⟩
      · simp [Instr.sliceBounds]
      · simp only [Instr.sliceBounds, Sem.run_bind, Sem.run_pure, Result.andThen_ok, hb _ _ _ _ h1]
    · rcases hlo with ⟨rfl, rfl⟩ | ⟨k'', rfl⟩
      · simp only [Instr.sliceBounds, Sem.run_bind, Sem.run_pure, Result.andThen_ok, hb _ _ _ _ h2]
      · simp only [Instr.sliceBounds, Sem.run_bind, Sem.run_pure, Result.andThen_ok, hb _ _ _ _ h2, hb _ _ _ _ h1]
  · rcases hhi with ⟨rfl, rfl⟩ | ⟨k', rfl⟩
    · exact absurd rfl hne
    · rcases hlo with ⟨rfl, rfl⟩ | ⟨k'', rfl⟩
      · simp only [Instr.sliceBounds, Sem.run_bind, Sem.run_pure, Result.andThen_ok, hb _ _ _ _ h2, hb _ _ _ _ h3]
      · simp only [Instr.sliceBounds, Sem.run_bind, Sem.run_pure, Result.andThen_ok, hb _ _ _ _ h2, hb _ _ _ _ h1, hb _ _ _ _ h3]

theorem optNat_spec {x : Sem Value} {o : Option V} {O : Option Value} (ho : OpR' sy φ o O) {d : Nat} {k : Nat → R} (h : ∀ n, ((O = none ∧ n = d) ∨ ∃ kk, O = some (.int kk (Int.ofNat n))) → VSpec sy N0 P φ s w x (k n)) :
    VSpec sy N0 P φ s w x (optNat o d R.bad k) := by
  cases ho with
  | none => exact h d (.inl ⟨rfl, rfl⟩)
  | some v u hv => exact natOf_spec hv fun kk n e => h n (.inr ⟨kk, by rw [e]⟩)

theorem slStr_sound (hr : Rel sy N0 φ s w) {t : TypeId} (hu : P.underlying t = some .string) {x : V} {X : Value} {lo hi : Option V} {LO HI : Option Value} (hx : VR sy φ x X) (hlo : OpR' sy φ lo LO) (hhi : OpR' sy φ hi HI) :
    VSpec sy N0 P φ s w (Instr.sliceAt t X LO HI none) (slStr x lo hi s) := by
  unfold slStr
  split
  · obtain ⟨b, rfl, rfl, rfl⟩ := hx.str_inv
    refine optNat_spec hlo fun l hl => optNat_spec hhi fun h hh => VSpec.ifB fun h1 => VSpec.ifB fun h2 => ?_
    rw [bleN] at h1 h2
    have h1 : l ≤ h := of_decide_eq_true h1
    have h2 : h ≤ b.data.toList.length := of_decide_eq_true h2
    rw [forceN_eq, forceN_eq]
    have hsz : b.data.toList.length = b.size := str_size b
    rw [hsz] at hh h2
    refine .same hr (V := .string (b.extract l h)) ?_ ?_
    · have := run_bounds (P := P) (w := w) false b.size b.size (m := b.size) hl hh (.inl ⟨rfl, rfl⟩) h1 h2 (Nat.le_refl _)
      simp [Instr.sliceAt, Instr.slice, run_underlying hu, Result.andThen, this]
    · refine .s _ _ _ ?_ ?_
      · rw [str_size]
        show (b.extract l h).size = h - l
        rw [ByteArray.size_extract]; omega
      · show _ = enc b.data.toList / 256 ^ (b.data.toList.length - h) % 256 ^ (h - l)
        rw [slice_eq _ l h h1 (by rw [hsz]; exact h2)]
        congr 1
        rw [ByteArray.data_extract, Array.toList_extract]
        simp [List.extract, List.drop_take]
  · trivial

theorem slOut_eq (b o l h c es : Nat) (ex : Bool) (s : S) : slOut b o l h c es ex s = .val (.sl b (o + l * es) (h - l) (c - l) es ex) s := by
  unfold slOut; rw [forceN_eq, forceN_eq, forceN_eq]; rfl

theorem slSl_sound (hr : Rel sy N0 φ s w) {t el : TypeId} (hu : P.underlying t = some (.slice el)) {es : Nat} (hes : szOf P el = some es) {x : V} {X : Value} {lo hi mx : Option V} {LO HI MX : Option Value}
    (hx : VR sy φ x X) (hlo : OpR' sy φ lo LO) (hhi : OpR' sy φ hi HI) (hmx : OpR' sy φ mx MX) : VSpec sy N0 P φ s w (Instr.sliceAt t X LO HI MX) (slSl es x lo hi mx s) := by
  have hat : ∀ Y, (Instr.sliceAt t Y LO HI MX) = (do
      match ← underlying t with
      | .array n elem =>
        let a ← Instr.sureAddr Y
        let (l, h, m) ← Instr.sliceBounds false n n LO HI MX
        let size ← Go.sizeOf elem
        pure (.slice (some (if m = l then a else a.add (l * size))) (h - l) (m - l))
      | _ => Instr.slice t Y LO HI MX) := fun _ => rfl
  unfold slSl
  split
  · rename_i b o len cap es' ex
    cases hx with
    | sl _ _ _ _ _ _ L x cp hL hxa hroom hlc hcap =>
      refine optNat_spec hlo fun l hl => optNat_spec hhi fun h hh => VSpec.ifB fun h0 => VSpec.ifB fun h1 => VSpec.ifB fun h2 => ?_
      obtain rfl : es = es' := Nat.eq_of_beq_eq_true h0
      rw [bleN] at h1 h2
      have h1 : l ≤ h := of_decide_eq_true h1
      have h2 : h ≤ cap := of_decide_eq_true h2
      have hcp : cap ≤ cp := by
        cases ex with
        | true => simp only [if_true] at hcap; omega
        | false => simpa using hcap
      -- the cut, up to 'm'
      have cut : ∀ m, h ≤ m → m ≤ cp → ((MX = none ∧ m = cp) ∨ ((∃ k, MX = some (.int k (Int.ofNat m))) ∧ HI ≠ none)) →
          (Instr.sliceAt t (.slice (some ⟨L.blk, x, none⟩) len cp) LO HI MX).run P w = .ok (.slice (some (if m = l then ⟨L.blk, x, none⟩ else ⟨L.blk, x + l * es, none⟩)) (h - l) (m - l)) w := by
        intro m g1 g2 g3
        have := run_bounds (P := P) (w := w) true len cp hl hh g3 h1 g1 g2
        rw [hat]
        simp only [Sem.run_bind, run_underlying hu, Result.andThen_ok, Instr.slice, this, run_szOf hes w, Sem.run_pure]
        by_cases hml : m = l
        · simp [hml]
        · simp [hml, Addr.add_lit]
      have out : ∀ m c ex', h ≤ m → m ≤ cp → (if ex' = true then m = c else c ≤ m) → VR sy φ (.sl b (o + l * es) (h - l) (c - l) es ex') (.slice (some (if m = l then ⟨L.blk, x, none⟩ else ⟨L.blk, x + l * es, none⟩)) (h - l) (m - l)) := by
        intro m c ex' g1 g2 g3
        have hr2 : o + l * es + (m - l) * es ≤ L.room := by
          have e1 : l * es + (m - l) * es = m * es := by rw [← Nat.add_mul]; congr 1; omega
          have e2 : m * es ≤ cp * es := Nat.mul_le_mul_right es g2
          omega
        by_cases hml : m = l
        · rw [if_pos hml]
          refine .sl _ _ _ _ _ _ L x _ hL (.inl (by omega)) hr2 (by omega) ?_
          cases ex' <;> simp only [if_true, if_false, Bool.false_eq_true] at g3 ⊢ <;> omega
        · rw [if_neg hml]
          have hxe : x = L.base + o := hxa.resolve_left (by omega)
          refine .sl _ _ _ _ _ _ L (x + l * es) _ hL (.inr (by omega)) hr2 (by omega) ?_
          cases ex' <;> simp only [if_true, if_false, Bool.false_eq_true] at g3 ⊢ <;> omega
      cases hmx with
      | none =>
        show VSpec _ _ _ _ _ _ _ (slOut b o l h cap es ex s)
        rw [slOut_eq]
        refine .same hr (cut cp (by omega) (Nat.le_refl _) (.inl ⟨rfl, rfl⟩)) (out cp cap ex (by omega) (Nat.le_refl _) ?_)
        cases ex <;> simp only [if_true, if_false, Bool.false_eq_true] at hcap ⊢ <;> omega
      | some v u hv =>
        cases hhi with
        | none => trivial
        | some v' u' hv' =>
          refine natOf_spec hv fun kk m e => VSpec.ifB fun h3 => VSpec.ifB fun h4 => ?_
          rw [bleN] at h3 h4
          have h3 : h ≤ m := of_decide_eq_true h3
          have h4 : m ≤ cap := of_decide_eq_true h4
          rw [slOut_eq]
          exact .same hr (cut m h3 (by omega) (.inr ⟨⟨kk, by rw [e]⟩, by simp⟩)) (out m m true h3 (by omega) rfl)
  · cases hx with
    | x _ _ hx =>
    cases hx
    refine optNat_spec hlo fun l hl => optNat_spec hhi fun h hh => VSpec.ifB fun h1 => VSpec.ifB fun h2 => ?_
    obtain rfl : l = 0 := Nat.eq_of_beq_eq_true h1
    obtain rfl : h = 0 := Nat.eq_of_beq_eq_true h2
    have cut : ((MX = none ∧ 0 = 0) ∨ ((∃ k, MX = some (.int k (Int.ofNat 0))) ∧ HI ≠ none)) → (Instr.sliceAt t (.slice none 0 0) LO HI MX).run P w = .ok (.slice none 0 0) w := by
      intro g3
      have := run_bounds (P := P) (w := w) true 0 0 (l := 0) (h := 0) (m := 0) hl hh g3 (Nat.le_refl _) (Nat.le_refl _) (Nat.le_refl _)
      rw [hat]
      simp [run_underlying hu, Result.andThen, Instr.slice, this, run_szOf hes w]
    cases hmx with
    | none => exact .same hr (cut (.inl ⟨rfl, rfl⟩)) (.x _ _ .sn)
    | some v u hv =>
      cases hhi with
      | none => trivial
      | some v' u' hv' =>
        refine natOf_spec hv fun kk m e => VSpec.ifB fun h3 => ?_
        obtain rfl : m = 0 := Nat.eq_of_beq_eq_true h3
        exact .same hr (cut (.inr ⟨⟨kk, by rw [e]⟩, by simp⟩)) (.x _ _ .sn)
  · trivial

theorem slArr_sound (hr : Rel sy N0 φ s w) {t el : TypeId} {n : Nat} (hu : P.underlying t = some (.array n el)) {es : Nat} (hes : szOf P el = some es) {x : V} {X : Value} {lo hi : Option V} {LO HI : Option Value}
    (hx : VR sy φ x X) (hlo : OpR' sy φ lo LO) (hhi : OpR' sy φ hi HI) : VSpec sy N0 P φ s w (Instr.sliceAt t X LO HI none) (slArr n es x lo hi s) := by
  unfold slArr
  split
  · rename_i b o
    cases hx with
    | p _ _ L hL =>
      refine optNat_spec hlo fun l hl => optNat_spec hhi fun h hh => VSpec.ifB fun h1 => VSpec.ifB fun h2 => ?_
      rw [bleN] at h1 h2
      have h1 : l ≤ h := of_decide_eq_true h1
      have h2 : h ≤ n := of_decide_eq_true h2
      split
      · rename_i eb m tr ro str hb
        refine VSpec.ifB fun h3 => ?_
        rw [bleN] at h3
        have h3 : o + n * es ≤ eb * m := of_decide_eq_true h3
        obtain ⟨L', hL', hB, _⟩ := hr.cell _ _ _ _ _ _ hb
        obtain rfl : L = L' := by rw [hL] at hL'; exact Option.some.inj hL'
        have hext := hB.ext
        rw [slOut_eq]
        have := run_bounds (P := P) (w := w) false n n (m := n) hl hh (.inl ⟨rfl, rfl⟩) h1 h2 (Nat.le_refl _)
        have hr2 : o + l * es + (n - l) * es ≤ L.room := by
          have e1 : l * es + (n - l) * es = n * es := by rw [← Nat.add_mul]; congr 1; omega
          omega
        refine .same hr (V := .slice (some (if n = l then ⟨L.blk, L.base + o, none⟩ else ⟨L.blk, L.base + o + l * es, none⟩)) (h - l) (n - l)) ?_ ?_
        · simp only [Instr.sliceAt, Sem.run_bind, run_underlying hu, Result.andThen_ok, Instr.sureAddr, Sem.run_pure, this, run_szOf hes w]
          by_cases hml : n = l
          · simp [hml]
          · simp [hml, Addr.add_lit]
        · by_cases hml : n = l
          · rw [if_pos hml]
            exact .sl _ _ _ _ _ _ L _ _ hL (.inl (by omega)) hr2 (by omega) (by simp)
          · rw [if_neg hml]
            exact .sl _ _ _ _ _ _ L _ _ hL (.inr (by omega)) hr2 (by omega) (by simp)
      · trivial
  · trivial

/-! ### make -/
theorem repl_len (x : List V) : ∀ n, (repl x n).length = n
  | 0 => rfl
  | n + 1 => congrArg Nat.succ (repl_len x n)
theorem repl_get (x : List V) : ∀ n i, i < n → (repl x n)[i]? = some x
  | n + 1, 0, _ => rfl
  | n + 1, i + 1, h => by
    show (repl x n)[i]? = _
    exact repl_get x n i (by omega)

theorem makeSl_sound (hr : Rel sy N0 φ s w) {t el : TypeId} (hu : P.underlying t = some (.slice el)) {i : TypeInfo} (hi : P.info? el = some i) {Z : Value} (hZ : i.zero = some Z) {es : Nat} (hsz : i.size = es) (hpos : 0 < es) (hby : i.bytes < 100000)
    {z : List V} (hz : VRs sy φ z Z.cells.toList) (hzl : z.length = es) (hf : allFlat z = true) {x y : V} {X Y : Value} (hx : VR sy φ x X) (hy : VR sy φ y Y) : VSpec sy N0 P φ s w (Instr.makeSlice t X Y) (makeSl es (el + 2) z x y s) := by
  unfold makeSl
  refine natOf_spec hx fun k1 l e1 => natOf_spec hy fun k2 c e2 => VSpec.ifB fun h1 => VSpec.ifB fun h2 => ?_
  subst e1 e2
  rw [forceN_eq, forceN_eq, newB_eq]
  rw [bleN] at h1
  rw [bltN] at h2
  have h1 : l ≤ c := of_decide_eq_true h1
  have h2 : c < 1000000 := of_decide_eq_true h2
  have hZs : Z.cells.size = es := by rw [← Array.length_toList, ← hz.length, hzl]
  have hsmall : i.bytes * c ≤ 100000 * 1000000 := Nat.mul_le_mul (by omega) (by omega)
  have hsmall' : (i.bytes : Int) * (Int.ofNat c) ≤ 281474976710656 := by
    have : ((i.bytes * c : Nat) : Int) ≤ 100000000000 := by omega
    rw [Int.natCast_mul] at this
    exact Int.le_trans this (by decide)
  let C : Array Value := madeCells Z.cells (c * es)
  have hC : C.size = c * es := size_madeCells _ _
  have hrun : (Instr.makeSlice t (.int k1 (Int.ofNat l)) (.int k2 (Int.ofNat c))).run P w = .ok (.slice (some ⟨w.heap.size, 0, none⟩) l c) (w.alloc (.cells C el)) := by
    have := run_make (P := P) w t el i Z hu hi hZ k1 k2 (Int.ofNat l) (Int.ofNat c) (Int.natCast_nonneg l) (Int.ofNat_le.2 h1) hsmall' (by simp only [Int.ofNat_eq_natCast]; omega)
    rw [hsz] at this
    exact this
  have hrel := hr.fresh (w' := w.alloc (.cells C el)) (C := C) (et := el) (fz := (0, 0)) rfl (es := es) (n := c) (t := fillT (repl z c) 0 .leaf) (str := el + 2) hpos (by rw [hC, Nat.mul_comm]; exact Nat.le_refl _) (fun o _ => by simp) (fun _ => rfl) (fun k hk => by
    refine ⟨z, by rw [fillT_get, if_pos (by rw [repl_len]; omega)]; exact repl_get z c k hk, hzl, fun j v hj => ?_⟩
    have hjl : j < es := by rw [← hzl]; exact (List.getElem?_eq_some_iff.1 hj).1
    refine ⟨allFlat_all z hf v (List.mem_of_getElem? hj), ?_⟩
    obtain ⟨u, u1, u2⟩ := hz.get j v hj
    refine ⟨u, ?_, u2⟩
    have hlt : k * es + j < c * es := by
      have : (k + 1) * es ≤ c * es := Nat.mul_le_mul_right es hk
      rw [Nat.add_mul, Nat.one_mul] at this; omega
    have hmod : (k * es + j) % es = j := by rw [Nat.mul_comm, Nat.mul_add_mod]; exact Nat.mod_eq_of_lt hjl
    simp only [C, madeCells, Array.getElem?_map, hZs]
    rw [Array.getElem?_range, if_pos hlt]
    simp only [Option.map_some, hmod]
    have : Z.cells[j]? = some u := by simpa using u1
    rw [getElem!_def, this]) (fun _ => by omega)
  refine ⟨_, _, _, hrun, Ext.of_new hr (fun b L e => Phi.set_old e (hr.none (Nat.le_refl _))) (fun _ hb => Phi.set_below hb) (Nat.le_succ _) rfl ⟨_, rfl⟩ rfl rfl rfl rfl hrel, ?_⟩
  exact .sl _ _ _ _ _ _ ⟨w.heap.size, 0, C.size⟩ 0 c (Phi.set_same _ _ _) (.inr rfl) (by simp only [Nat.zero_add]; rw [hC]; exact Nat.le_refl _) h1 (by simp)
end
end Ev

namespace Ev
open Go Go.RowKit

section
variable {sy : Sy} {N0 : Nat → Prop} {P : Program} {φ : Phi} {s : S} {w : World}

theorem same1_sound {x y : V} {X Y : Value} (h : same1 x y = true) (hx : VR sy φ x X) (hy : VR sy φ y Y) : X = Y ∧ ((∃ k n, X = .int k n) ∨ ∃ b, X = .string b) := by
  unfold same1 at h
  split at h
  · split at h
    · rename_i k m _ k' n
      cases hx; cases hy
      have h1 : Nat.beq k k' = true ∧ eqI m n = true := by
        cases hb : Nat.beq k k' with
        | false => rw [hb] at h; cases h
        | true => rw [hb] at h; exact ⟨rfl, h⟩
      obtain rfl : k = k' := Nat.eq_of_beq_eq_true h1.1
      have h2 := h1.2
      rw [eqI_eq] at h2
      obtain rfl : m = n := by simpa using h2
      exact ⟨rfl, .inl ⟨_, _, rfl⟩⟩
    · cases h
  · split at h
    · obtain ⟨a, rfl, rfl, rfl⟩ := hx.str_inv
      obtain ⟨b, rfl, rfl, rfl⟩ := hy.str_inv
      rw [eqS_eq] at h
      have h : a.data.toList = b.data.toList := by simpa using h
      have : a = b := by
        cases a with | mk a => cases b with | mk b => exact congrArg ByteArray.mk (Array.toList_inj.1 h)
      exact ⟨by rw [this], .inr ⟨_, rfl⟩⟩
    · cases h
  · cases h

theorem sameC_sound : ∀ {xs ys : List V} {Xs Ys : List Value}, sameC xs ys = true → VRs sy φ xs Xs → VRs sy φ ys Ys → Xs = Ys ∧ ∀ X ∈ Xs, (∃ k n, X = .int k n) ∨ ∃ b, X = .string b
  | [], [], _, _, _, .nil, .nil => ⟨rfl, fun _ h => by cases h⟩
  | [], _ :: _, _, _, h, _, _ => by cases h
  | _ :: _, [], _, _, h, _, _ => by cases h
  | x :: xs, y :: ys, _, _, h, .cons _ X _ Xs hx hxs, .cons _ Y _ Ys hy hys => by
    have h1 : same1 x y = true ∧ sameC xs ys = true := by
      replace h : ifB (same1 x y) (sameC xs ys) false = true := h
      cases hb : same1 x y with
      | false => rw [hb] at h; cases h
      | true => rw [hb] at h; exact ⟨rfl, h⟩
    obtain ⟨e1, e2⟩ := same1_sound h1.1 hx hy
    obtain ⟨e3, e4⟩ := sameC_sound h1.2 hxs hys
    refine ⟨by rw [e1, e3], fun Z hZ => ?_⟩
    cases hZ with
    | head => exact e2
    | tail _ hZ => exact e4 Z hZ

/-- A key. -/
inductive KeyV : Value → Prop where
  | int (k : IntKind) (n : Int) : KeyV (.int k n)
  | str (b : ByteArray) : KeyV (.string b)
  | ag (l : List Value) (h : ∀ X ∈ l, (∃ k n, X = .int k n) ∨ ∃ b, X = .string b) : KeyV (.agg ⟨l⟩)

theorem sameBits_one (n : Nat) {X : Value} (h : (∃ k n, X = .int k n) ∨ ∃ b, X = .string b) : Instr.sameBits n X X = true := by
  rcases h with ⟨k, m, rfl⟩ | ⟨b, rfl⟩
  · cases n <;> simp [Instr.sameBits]
  · cases n <;> simp [Instr.sameBits, MapKept.bytes_beq]

theorem KeyV.same {X : Value} (h : KeyV X) (n : Nat) : Instr.sameBits (n + 1) X X = true := by
  cases h with
  | int k m => exact sameBits_one _ (.inl ⟨_, _, rfl⟩)
  | str b => exact sameBits_one _ (.inr ⟨_, rfl⟩)
  | ag l h =>
    have : ∀ l : List Value, (∀ X ∈ l, (∃ k n, X = .int k n) ∨ ∃ b, X = .string b) → (l.zip l).all (fun (x, y) => Instr.sameBits n x y) = true := by
      intro l
      induction l with
      | nil => intro _; rfl
      | cons x l ih =>
        intro h
        simp only [List.zip_cons_cons, List.all_cons, Bool.and_eq_true]
        exact ⟨sameBits_one n (h x (.head _)), ih fun y hy => h y (.tail _ hy)⟩
    simp only [Instr.sameBits, BEq.rfl, Bool.true_and]
    exact this l h

theorem KeyV.stays {X : Value} (h : KeyV X) : (Instr.keyThatStays X X).run P w = .ok X w := by
  have := h.same 9999
  unfold Instr.keyThatStays
  rw [if_pos this]
  exact Sem.run_pure ..

/-- A key is one. -/
theorem keyOk_sound {t : TypeId} {q : KQ} (hq : (qKey P t).f = some q) {k : V} {K : Value} (hk : VR sy φ k K) (h : keyOk q k = true) : KeyV K ∧ ∀ e, (Instr.checkKey e 10000 t K).run P w = .ok () w := by
  unfold qKey at hq
  split at hq
  · rename_i kk hu
    obtain rfl := Option.some.inj hq
    cases hk with
    | i k n =>
      refine ⟨.int _ _, fun e => ?_⟩
      show (Instr.checkKey e (9999 + 1) t _).run P w = .ok () w
      unfold Instr.checkKey
      simp [run_underlying hu, Result.andThen]
    | _ => cases h
  · rename_i hu
    obtain rfl := Option.some.inj hq
    cases hk with
    | s b l c _ _ =>
      refine ⟨.str _, fun e => ?_⟩
      show (Instr.checkKey e (9999 + 1) t _).run P w = .ok () w
      unfold Instr.checkKey
      simp [run_underlying hu, Result.andThen]
    | _ => cases h
  · rename_i fs hu
    split at hq
    · rename_i l hl
      split at hq
      · rename_i hap
        obtain rfl := Option.some.inj hq
        cases hk with
        | ag xs C hC =>
          replace h : ifB (sameC xs xs) (fits l xs) false = true := h
          have h1 : sameC xs xs = true ∧ fits l xs = true := by
            cases hb : sameC xs xs with
            | false => rw [hb] at h; cases h
            | true => rw [hb] at h; exact ⟨rfl, h⟩
          refine ⟨.ag C (sameC_sound h1.1 hC hC).2, fun e => ?_⟩
          have hqf : qFields P fs.toList = some l := by
            unfold eqSt at hl
            rw [hu] at hl
            simp only at hl
            split at hl
            · exact hl
            · cases hl
          have step : ∀ (fs : List Field) (l : List (Q × Nat)), qFields P fs = some l → allPlain l = true → fits l xs = true →
              (forIn fs PUnit.unit (fun f _ => if f.name ≠ "_" then (do
                let x ← Go.part f.type ⟨C⟩ f.offset
                Instr.checkKey e 9999 f.type x
                pure (ForInStep.yield PUnit.unit) : Sem (ForInStep PUnit)) else pure (ForInStep.yield PUnit.unit))).run P w = .ok PUnit.unit w := by
            intro fs
            induction fs with
            | nil => intro l _ _ _; simp
            | cons f fs ih =>
              intro l hq ha hf
              unfold qFields at hq
              split at hq
              · cases hq
              · rename_i hname
                split at hq
                · rename_i hagg
                  split at hq
                  · rename_i r hr
                    obtain rfl := Option.some.inj hq
                    have hn : f.name ≠ "_" := by simpa using hname
                    replace hf : Option.rec (motive := fun _ => Bool) false (fun _ => fits r xs) (nth xs f.offset) = true := hf
                    cases hx : nth xs f.offset with
                    | none => rw [hx] at hf; cases hf
                    | some x =>
                      rw [hx] at hf
                      rw [nth_eq] at hx
                      obtain ⟨X, hX, hXv⟩ := hC.get _ _ hx
                      have hp : (Go.part f.type ⟨C⟩ f.offset).run P w = .ok X w := by
                        have : (⟨C⟩ : Array Value)[f.offset]? = some X := by simpa using hX
                        simp [Go.part, aggOf_sound hagg w, Result.andThen, this]
                      have hc : allPlain r = true ∧ (Instr.checkKey e 9999 f.type X).run P w = .ok () w := by
                        generalize hqo : qOf P f.type = qq at ha
                        unfold qOf at hqo
                        cases hun : P.underlying f.type with
                        | none => rw [hun] at hqo; subst hqo; cases ha
                        | some d =>
                          rw [hun] at hqo
                          cases d <;> simp only at hqo
                          case int k2 =>
                            subst hqo
                            refine ⟨ha, ?_⟩
                            show (Instr.checkKey e (9998 + 1) f.type X).run P w = .ok () w
                            unfold Instr.checkKey
                            simp [run_underlying hun, Result.andThen]
                          case string =>
                            subst hqo
                            refine ⟨ha, ?_⟩
                            show (Instr.checkKey e (9998 + 1) f.type X).run P w = .ok () w
                            unfold Instr.checkKey
                            simp [run_underlying hun, Result.andThen]
                          case pointer el => split at hqo <;> (subst hqo; cases ha)
                          all_goals (subst hqo; cases ha)
                      have ih' := ih r hr hc.1 hf
                      simp only [List.forIn_cons, Sem.run_bind, if_pos hn, hp, hc.2, Result.andThen_ok, Sem.run_pure]
                      exact ih'
                  · cases hq
                · cases hq
          show (Instr.checkKey e (9999 + 1) t (.agg ⟨C⟩)).run P w = .ok () w
          unfold Instr.checkKey
          have := step fs.toList l hqf hap h1.2
          simp only [Sem.run_bind, run_underlying hu, Result.andThen_ok]
          rw [← Array.forIn_toList, this]
          rfl
        | _ => cases h
      · cases hq
    · cases hq
  · cases hq

/-- What is found in a map's entries. -/
inductive FoundR (sy : Sy) (φ : Phi) (l : List (V × V × Nat)) (es : List MapEntry) (K : Value) (i : Nat) : Option (Nat × V × Nat) → Option (Nat × Value) → Prop where
  | none : FoundR sy φ l es K i none none
  | some (m : Nat) (v : V) (n : Nat) (U : Value) (k : V) (hl : l[m]? = some (k, v, n)) (hr : es[m]? = some ⟨K, U, n⟩) (hv : VR sy φ v U) : FoundR sy φ l es K i (some (i + m, v, n)) (some (i + m, U))

theorem FoundR.next {l : List (V × V × Nat)} {es : List MapEntry} {K : Value} {i : Nat} {x : Option (Nat × V × Nat)} {y : Option (Nat × Value)} (e : V × V × Nat) (E : MapEntry) (h : FoundR sy φ l es K (i + 1) x y) : FoundR sy φ (e :: l) (E :: es) K i x y := by
  cases h with
  | none => exact .none
  | some m v n U k hl hr hv =>
    have := FoundR.some (sy := sy) (φ := φ) (l := e :: l) (es := E :: es) (K := K) (i := i) (m + 1) v n U k (by simpa using hl) (by simpa using hr) hv
    rwa [show i + (m + 1) = i + 1 + m by omega] at this

def KQ.isSt : KQ → Bool
  | .st _ => true
  | _ => false

/-- Two keys. -/
theorem keyEq_sound {t : TypeId} {q : KQ} (hq : (qKey P t).f = some q) {d : TypeDesc} (hu : P.underlying t = some d) {a b : V} {A B : Value} (ha : VR sy φ a A) (hb : VR sy φ b B) {r : Bool} (h : keyEq q a b = some r) :
    (r = true → A = B) ∧ (q.isSt = false → Instr.sameNow d A B = some r) ∧ (q.isSt = true → (Op.equal t A B).run P w = .ok r w) := by
  unfold qKey at hq
  rw [hu] at hq
  split at hq
  · rename_i kk hu'
    obtain rfl := Option.some.inj hq
    obtain rfl := Option.some.inj hu'
    cases ha with
    | i k m =>
      cases hb with
      | i k' n =>
        replace h : ifB (Nat.beq k k') (some (eqI m n)) none = some r := h
        obtain ⟨h1, h2⟩ := ifB_some h
        obtain rfl : k = k' := Nat.eq_of_beq_eq_true h1
        rw [eqI_eq] at h2
        obtain rfl := Option.some.inj h2
        refine ⟨fun e => ?_, fun _ => by simp [Instr.sameNow], fun e => by cases e⟩
        obtain rfl : m = n := by simpa using e
        rfl
      | _ => cases h
    | _ => cases h
  · rename_i hu'
    obtain rfl := Option.some.inj hq
    obtain rfl := Option.some.inj hu'
    cases ha with
    | s A _ _ h1 h2 =>
      cases hb with
      | s B _ _ h3 h4 =>
        subst h1 h2 h3 h4
        replace h : some (eqS _ _ _ _) = some r := h
        rw [eqS_eq] at h
        obtain rfl := Option.some.inj h
        have key : (A.data.toList == B.data.toList) = (A == B) := by
          rw [Bool.eq_iff_iff, MapKept.bytes_beq]
          constructor
          · intro e
            have e : A.data.toList = B.data.toList := by simpa using e
            obtain ⟨a⟩ := A
            obtain ⟨b⟩ := B
            exact congrArg ByteArray.mk (Array.toList_inj.1 e)
          · intro e; rw [e]; simp
        refine ⟨fun e => ?_, fun _ => by rw [key]; rfl, fun e => by cases e⟩
        rw [key] at e
        rw [(MapKept.bytes_beq A B).1 e]
      | _ => cases h
    | _ => cases h
  · rename_i fs hu'
    split at hq
    · rename_i l hl
      split at hq
      · obtain rfl := Option.some.inj hq
        cases ha with
        | ag xs Xs hX =>
          cases hb with
          | ag ys Ys hY =>
            replace h : (bindO (eqFs l xs ys) fun r => ifB r (ifB (sameC xs ys) (some true) none) (some false)) = some r := h
            obtain ⟨r', h1, h2⟩ := bindN h
            have he := (eqSt_sound (w := w) 9998 hl h1 hX hY).1
            cases r' with
            | true =>
              obtain ⟨h3, h4⟩ := ifB_some h2
              obtain rfl := Option.some.inj h4
              exact ⟨fun _ => by rw [(sameC_sound h3 hX hY).1], (fun e => by cases e), fun _ => he⟩
            | false =>
              obtain rfl := Option.some.inj h2
              exact ⟨(fun e => by cases e), (fun e => by cases e), fun _ => he⟩
          | _ => cases h
        | _ => cases h
      · cases hq
    · cases hq
  · cases hq

theorem findK_cons {q : KQ} {k : V} {e : V × V × Nat} {l : List (V × V × Nat)} {i : Nat} : findK q k (e :: l) i = bindO (keyEq q k e.1) fun r => ifB r (some (some (i, e.2))) (findK q k l (Nat.succ i)) := rfl

theorem findK_both {t : TypeId} {q : KQ} (hq : (qKey P t).f = some q) {d : TypeDesc} (hd : P.underlying t = some d) {k : V} {K : Value} (hk : VR sy φ k K) : ∀ {l : List (V × V × Nat)} {es : List MapEntry} (i : Nat) {x}, EntR sy φ l es → findK q k l i = some x →
    ∃ y, FoundR sy φ l es K i x y ∧ (q.isSt = false → Instr.findNow d K es i = some y) ∧ (q.isSt = true → (Instr.findAsking t K es i).run P w = .ok y w)
  | _, _, i, x, .nil, h => by
    obtain rfl := Option.some.inj h
    exact ⟨none, .none, fun _ => rfl, fun _ => by simp [Instr.findAsking]⟩
  | _, _, i, x, .cons ek ev n EK EV l es hek hev hs, h => by
    rw [findK_cons] at h
    obtain ⟨r, h1, h2⟩ := bindN h
    obtain ⟨hAB, hn, he⟩ := keyEq_sound (w := w) hq hd hk hek h1
    cases r with
    | true =>
      obtain rfl := Option.some.inj h2
      obtain rfl := hAB rfl
      refine ⟨some (i, EV), ?_, fun e => by simp [Instr.findNow, hn e], fun e => by simp [Instr.findAsking, he e, Result.andThen]⟩
      have := FoundR.some (sy := sy) (φ := φ) (l := (ek, ev, n) :: l) (es := ⟨K, EV, n⟩ :: es) (K := K) (i := i) 0 ev n EV ek rfl rfl hev
      simpa using this
    | false =>
      replace h2 : findK q k l (i + 1) = some x := h2
      obtain ⟨y, hy, hf, hg⟩ := findK_both hq hd hk (i + 1) hs h2
      exact ⟨y, hy.next _ _, fun e => by simp [Instr.findNow, hn e, hf e], fun e => by simp [Instr.findAsking, he e, hg e, Result.andThen]⟩

theorem findK_sound {t : TypeId} {q : KQ} (hq : (qKey P t).f = some q) {k : V} {K : Value} (hk : VR sy φ k K) {l : List (V × V × Nat)} {es : List MapEntry} {x} (hE : EntR sy φ l es) (h : findK q k l (nat_lit 0) = some x) :
    ∃ y, FoundR sy φ l es K 0 x y ∧ (Instr.findKey t K es).run P w = .ok y w := by
  have hd : ∃ d, P.underlying t = some d := by
    unfold qKey at hq
    split at hq
    · rename_i h; exact ⟨_, h⟩
    · rename_i h; exact ⟨_, h⟩
    · rename_i h; exact ⟨_, h⟩
    · cases hq
  obtain ⟨d, hd⟩ := hd
  obtain ⟨y, hy, hf, hg⟩ := findK_both (w := w) hq hd hk 0 hE h
  refine ⟨y, hy, ?_⟩
  cases hst : q.isSt with
  | false => exact MapKept.run_findKey hd (hf hst)
  | true =>
    have hs : ∃ fs, d = .struct fs := by
      unfold qKey at hq
      rw [hd] at hq
      split at hq
      · obtain rfl := Option.some.inj hq; cases hst
      · obtain rfl := Option.some.inj hq; cases hst
      · rename_i h; exact ⟨_, Option.some.inj h⟩
      · cases hq
    obtain ⟨fs, rfl⟩ := hs
    cases es with
    | nil =>
      have := hg hst
      simp [Instr.findAsking] at this
      subst this
      simp [Instr.findKey, run_underlying hd, Result.andThen, Instr.findNow]
    | cons e es =>
      have h0 : Instr.findNow (.struct fs) K (e :: es) 0 = none := rfl
      simp only [Instr.findKey, Sem.run_bind, run_underlying hd, Result.andThen_ok, h0]
      exact hg hst

/-! ### Entries -/
theorem EntR.snoc {l : List (V × V × Nat)} {es : List MapEntry} {k v : V} {n : Nat} {K U : Value} (hk : VR sy φ k K) (hv : VR sy φ v U) : EntR sy φ l es → EntR sy φ (l ++ [(k, v, n)]) (es ++ [⟨K, U, n⟩])
  | .nil => .cons _ _ _ _ _ _ _ hk hv .nil
  | .cons a b c d e f g h1 h2 h3 => .cons a b c d e _ _ h1 h2 (EntR.snoc hk hv h3)

theorem EntR.len : ∀ {l : List (V × V × Nat)} {es : List MapEntry}, EntR sy φ l es → l.length = es.length
  | _, _, .nil => rfl
  | _, _, .cons _ _ _ _ _ _ _ _ _ h => congrArg Nat.succ h.len

theorem EntR.set {f : MapEntry → MapEntry} {k v : V} {n : Nat} : ∀ {l : List (V × V × Nat)} {es : List MapEntry} {i : Nat} {e : MapEntry}, EntR sy φ l es → es[i]? = some e → VR sy φ k (f e).key → VR sy φ v (f e).val → (f e).born = n →
    EntR sy φ (setNth l i (k, v, n)) (es.modify i f)
  | _, _, 0, e, .cons a b c d u l es h1 h2 h3, h, hk, hv, hn => by
    simp at h
    subst h hn
    show EntR sy φ ((k, v, _) :: l) (f ⟨d, u, c⟩ :: es)
    exact .cons _ _ _ _ _ _ _ hk hv h3
  | _, _, i + 1, e, .cons a b c d u l es h1 h2 h3, h, hk, hv, hn => by
    show EntR sy φ ((a, b, c) :: setNth l i (k, v, n)) (⟨d, u, c⟩ :: es.modify i f)
    exact .cons _ _ _ _ _ _ _ h1 h2 (h3.set (by simpa using h) hk hv hn)
  | _, _, i, e, .nil, h, _, _, _ => by simp at h

theorem EntR.erase : ∀ {l : List (V × V × Nat)} {es : List MapEntry} (i : Nat), EntR sy φ l es → EntR sy φ (eraseE l i) (es.eraseIdx i)
  | _, _, 0, .cons a b c d u l es _h1 _h2 h3 => h3
  | _, _, i + 1, .cons a b c d u l es h1 h2 h3 => .cons _ _ _ _ _ _ _ h1 h2 (h3.erase i)
  | _, _, 0, .nil => .nil
  | _, _, _ + 1, .nil => .nil

theorem map_turn (hr : Rel sy N0 φ s w) {b : Nat} {l l' : List (V × V × Nat)} {c c' : Nat} {L : Loc} {es es' : Array MapEntry} (hb : s.heap.get b = some (.map l c)) (hL : φ b = some L) (hw : w.heap[L.blk]? = some (.map es c))
    (hE : EntR sy φ l' es'.toList) (hwl : s.wlo ≤ b) (hN : ¬ N0 L.blk) : Ext sy N0 φ s w φ ⟨s.heap.set b (.map l' c'), s.next, s.wlo⟩ { w with heap := w.heap.setIfInBounds L.blk (.map es' c') } := by
  obtain ⟨h1, h2⟩ := MapKept.heap_set (o' := Obj.map es' c') hw
  refine ⟨fun _ _ h => h, fun _ _ => rfl, Nat.le_refl _, rfl, fun c _ => T.live_set hb (by simp) c, ⟨rfl, rfl, rfl, by simp, fun k hk => h2 k (fun e => hN (by subst e; exact hk))⟩, ?_⟩
  exact hr.turn hwl hb (by simp) hL (by simp) (fun k _ hne => h2 k hne) (.inr ⟨l', c', es', rfl, h1, hE, fun _ => hN⟩)

theorem putMap_eq (s : S) (b : Nat) (l : List (V × V × Nat)) (c : Nat) (v : V) : putMap s b l c v = .val v ⟨s.heap.set b (.map l c), s.next, s.wlo⟩ := by
  unfold putMap; rw [T.setK_eq]

/-! ### The operations -/
theorem lookR_sound (hr : Rel sy N0 φ s w) {t kt el : TypeId} (hu : P.underlying t = some (.map kt el)) {q : KQ} (hq : (qKey P kt).f = some q) {z : V} (hz : zeroOf P el = some z) (ok : Bool) {x k : V} {X K : Value}
    (hx : VR sy φ x X) (hk : VR sy φ k K) : VSpec sy N0 P φ s w (Instr.lookup t X K ok) (lookR z ok q x k s) := by
  refine VSpec.ifB fun h1 => VSpec.bind fun l hl => VSpec.bind fun r hr1 => ?_
  obtain ⟨Z, hZ, hzv⟩ := zeroOf_run (sy := sy) (φ := φ) hz
  obtain ⟨_, hck⟩ := keyOk_sound (w := w) hq hk h1
  -- the entries
  have hent : ∃ es : Array MapEntry, EntR sy φ l es.toList ∧ ∀ f : Array MapEntry → Sem Value, ((do
      let es ← match X with
        | .map none => pure #[]
        | .map (some r) => do
          let .map es _ ← getObj r | stuck "Lookup: map expected"
          pure es
        | _ => stuck "Lookup: map expected"
      f es : Sem Value).run P w) = (f es).run P w := by
    unfold entries at hl
    split at hl
    · rename_i b
      split at hl
      · rename_i l' c hb
        obtain rfl := Option.some.inj hl
        cases hx with
        | x _ _ hx =>
        cases hx with
        | m _ L hL =>
        obtain ⟨L', es, hL', hw, hE, _⟩ := hr.map _ _ _ hb
        obtain rfl : L = L' := by rw [hL] at hL'; exact Option.some.inj hL'
        exact ⟨es, hE, fun f => by simp [MapKept.run_getObj_map hw, Result.andThen]⟩
      · cases hl
    · obtain rfl := Option.some.inj hl
      cases hx with
      | x _ _ hx =>
      cases hx with
      | y _ _ hx =>
      cases hx
      exact ⟨#[], .nil, fun f => by simp⟩
    · cases hl
  obtain ⟨es, hE, hrun⟩ := hent
  obtain ⟨y, hF, hfind⟩ := findK_sound (w := w) hq hk hE hr1
  have hall : (Instr.lookup t X K ok).run P w = ((do
      let (v, o) ← match y with
        | some (_, v) => pure (v, true)
        | none => pure (← zeroValue el, false)
      pure (if ok then .tuple #[v, .bool o] else v) : Sem Value).run P w) := by
    unfold Instr.lookup
    simp only [Sem.run_bind, run_underlying hu, Result.andThen_ok]
    have := hrun (fun es => do
      Instr.checkKey es.isEmpty 10000 kt K
      let (v, o) ← match ← Instr.findKey kt K es.toList with
        | some (_, v) => pure (v, true)
        | none => pure (← zeroValue el, false)
      pure (if ok then .tuple #[v, .bool o] else v))
    simp only [Sem.run_bind, hck, hfind, Result.andThen_ok] at this
    exact this
  cases hF with
  | none =>
    refine .same hr (V := if ok then .tuple #[Z, .bool false] else Z) ?_ ?_
    · rw [hall]; simp [hZ, Result.andThen]
    · cases ok
      · exact hzv
      · exact .x _ _ (.tu _ _ (.cons _ _ _ _ hzv (.cons _ _ _ _ (.b _) .nil)))
  | some m v n U k' h1 h2 hv =>
    refine .same hr (V := if ok then .tuple #[U, .bool true] else U) ?_ ?_
    · rw [hall]; simp
    · cases ok
      · exact hv
      · exact .x _ _ (.tu _ _ (.cons _ _ _ _ hv (.cons _ _ _ _ (.b _) .nil)))
end
end Ev

namespace Ev
open Go Go.RowKit

section
variable {sy : Sy} {N0 : Nat → Prop} {P : Program} {φ : Phi} {s : S} {w : World}

/-- A map that may be turned: what stands in it, what is found there. -/
theorem map_found (hr : Rel sy N0 φ s w) {kt : TypeId} {q : KQ} (hq : (qKey P kt).f = some q) {b : Nat} {l : List (V × V × Nat)} {c : Nat} (hb : s.heap.get b = some (.map l c)) {X : Value} (hx : VR sy φ (.x (.m b)) X)
    {k : V} {K : Value} (hk : VR sy φ k K) (hok : keyOk q k = true) {x} (hf : findK q k l (nat_lit 0) = some x) :
    ∃ L, ∃ es : Array MapEntry, X = .map (some L.blk) ∧ φ b = some L ∧ w.heap[L.blk]? = some (.map es c) ∧ EntR sy φ l es.toList ∧ (s.wlo ≤ b → ¬ N0 L.blk) ∧ KeyV K ∧ (∀ e, (Instr.checkKey e 10000 kt K).run P w = .ok () w) ∧
      ∃ y, FoundR sy φ l es.toList K 0 x y ∧ (Instr.findKey kt K es.toList).run P w = .ok y w := by
  cases hx with
  | x _ _ hx =>
  cases hx with
  | m _ L hL =>
  obtain ⟨L', es, hL', hw, hE, hN⟩ := hr.map _ _ _ hb
  obtain rfl : L = L' := by rw [hL] at hL'; exact Option.some.inj hL'
  obtain ⟨h1, h2⟩ := keyOk_sound (w := w) hq hk hok
  exact ⟨L, es, rfl, hL, hw, hE, hN, h1, h2, findK_sound hq hk hE hf⟩

theorem mapPut_sound (hr : Rel sy N0 φ s w) {t kt el : TypeId} (hu : P.underlying t = some (.map kt el)) {q : KQ} (hq : (qKey P kt).f = some q) {x k v : V} {X K U : Value}
    (hx : VR sy φ x X) (hk : VR sy φ k K) (hv : VR sy φ v U) : USpec sy N0 P φ s w (Instr.mapUpdate t X K U) (mapPut q x k v s) := by
  unfold mapPut
  refine USpec.ifB fun h1 => ?_
  split
  · rename_i b
    refine USpec.ifB fun hwl => ?_
    split
    · rename_i l c hb
      refine USpec.bind fun r hr1 => ?_
      obtain ⟨L, es, rfl, hL, hw, hE, hN, hkv, hck, y, hF, hfind⟩ := map_found hr hq hb hx hk h1 hr1
      cases hF with
      | none =>
        show USpec _ _ _ _ _ _ _ (putMap s b (app l [(k, v, c)]) (Nat.succ c) unit)
        rw [putMap_eq, app_eq]
        refine ⟨_, φ, ?_, map_turn hr hb hL hw (es' := es.push ⟨K, U, c⟩) (c' := c + 1) ?_ (Nat.le_of_ble_eq_true hwl) (hN (Nat.le_of_ble_eq_true hwl)), rfl⟩
        · simp [Instr.mapUpdate, run_underlying hu, MapKept.run_getObj_map hw, hck, hfind, Result.andThen, MapKept.run_setObj_map _ hw]
        · rw [Array.toList_push]; exact hE.snoc hk hv
      | some m v0 n U0 k0 h2 h3 hv0 =>
        show USpec _ _ _ _ _ _ _ (putMap s b (setNth l (0 + m) (k, v, n)) c unit)
        rw [putMap_eq]
        have hm : es[0 + m]? = some ⟨K, U0, n⟩ := by simpa using h3
        refine ⟨_, φ, ?_, map_turn hr hb hL hw (es' := es.modify (0 + m) fun e => { e with key := K, val := U }) (c' := c) ?_ (Nat.le_of_ble_eq_true hwl) (hN (Nat.le_of_ble_eq_true hwl)), rfl⟩
        · simp only [Instr.mapUpdate, Sem.run_bind, run_underlying hu, MapKept.run_getObj_map hw, hck, hfind, Result.andThen_ok, hm, Option.map_some, Option.getD_some, hkv.stays, MapKept.run_setObj_map _ hw]
        · rw [Array.toList_modify]
          exact hE.set (e := ⟨K, U0, n⟩) (by simpa using h3) hk hv rfl
    · trivial
  · trivial

theorem mapEnt_sound (hr : Rel sy N0 φ s w) {t kt el : TypeId} (hu : P.underlying t = some (.map kt el)) {q : KQ} (hq : (qKey P kt).f = some q) {z : V} (hz : zeroOf P el = some z) {x k : V} {X K : Value}
    (hx : VR sy φ x X) (hk : VR sy φ k K) : VSpec sy N0 P φ s w (Instr.mapEntry t X K) (mapEnt z q x k s) := by
  unfold mapEnt
  refine VSpec.ifB fun h1 => ?_
  obtain ⟨Z, hZ, hzv⟩ := zeroOf_run (sy := sy) (φ := φ) hz
  split
  · rename_i b
    refine VSpec.ifB fun hwl => ?_
    split
    · rename_i l c hb
      refine VSpec.bind fun r hr1 => ?_
      obtain ⟨L, es, rfl, hL, hw, hE, hN, hkv, hck, y, hF, hfind⟩ := map_found hr hq hb hx hk h1 hr1
      cases hF with
      | none =>
        show VSpec _ _ _ _ _ _ _ (putMap s b (app l [(k, z, c)]) (Nat.succ c) (.x (.tu [z, .i (nat_lit 0) (.ofNat c)])))
        rw [putMap_eq, app_eq]
        refine ⟨_, .tuple #[Z, goInt c], φ, ?_, map_turn hr hb hL hw (es' := es.push ⟨K, Z, c⟩) (c' := c + 1) ?_ (Nat.le_of_ble_eq_true hwl) (hN (Nat.le_of_ble_eq_true hwl)), ?_⟩
        · simp [Instr.mapEntry, run_underlying hu, MapKept.run_getObj_map hw, hck, hfind, Result.andThen, MapKept.run_setObj_map _ hw, hZ]
        · rw [Array.toList_push]; exact hE.snoc hk hzv
        · exact .x _ _ (.tu _ _ (.cons _ _ _ _ hzv (.cons _ _ _ _ (.i 0 _) .nil)))
      | some m v0 n U0 k0 h2 h3 hv0 =>
        show VSpec _ _ _ _ _ _ _ (putMap s b (setNth l (0 + m) (k, v0, n)) c (.x (.tu [v0, .i (nat_lit 0) (.ofNat n)])))
        rw [putMap_eq]
        have hm : es[0 + m]? = some ⟨K, U0, n⟩ := by simpa using h3
        refine ⟨_, .tuple #[U0, goInt n], φ, ?_, map_turn hr hb hL hw (es' := es.modify (0 + m) fun e => { e with key := K }) (c' := c) ?_ (Nat.le_of_ble_eq_true hwl) (hN (Nat.le_of_ble_eq_true hwl)), ?_⟩
        · simp only [Instr.mapEntry, Sem.run_bind, run_underlying hu, MapKept.run_getObj_map hw, hck, hfind, Result.andThen_ok, hm, Option.map_some, Option.getD_some, hkv.stays, MapKept.run_setObj_map _ hw, Sem.run_pure]
        · rw [Array.toList_modify]
          exact hE.set (e := ⟨K, U0, n⟩) (by simpa using h3) hk hv0 rfl
        · exact .x _ _ (.tu _ _ (.cons _ _ _ _ hv0 (.cons _ _ _ _ (.i 0 _) .nil)))
    · trivial
  · trivial

theorem delR_sound (hr : Rel sy N0 φ s w) {t u kt el ty : TypeId} (hu : P.underlying t = some (.map kt el)) {q : KQ} (hq : (qKey P kt).f = some q) {x k : V} {X K : Value}
    (hx : VR sy φ x X) (hk : VR sy φ k K) : VSpec sy N0 P φ s w (Builtin.delete_ #[t, u] ty #[X, K]) (delR q x k s) := by
  unfold delR
  refine VSpec.ifB fun h1 => ?_
  split
  · rename_i b
    refine VSpec.ifB fun hwl => ?_
    split
    · rename_i l c hb
      refine VSpec.bind fun r hr1 => ?_
      obtain ⟨L, es, rfl, hL, hw, hE, hN, hkv, hck, y, hF, hfind⟩ := map_found hr hq hb hx hk h1 hr1
      cases hF with
      | none =>
        have e := map_turn hr hb hL hw (es' := es) (c' := c) hE (Nat.le_of_ble_eq_true hwl) (hN (Nat.le_of_ble_eq_true hwl))
        have hsame : { w with heap := w.heap.setIfInBounds L.blk (.map es c) } = w := by
          have hlt : L.blk < w.heap.size := (Array.getElem?_eq_some_iff.1 hw).1
          have : w.heap.setIfInBounds L.blk (.map es c) = w.heap := by
            apply Array.ext
            · simp
            · intro i h1 h2
              have := (Array.getElem?_eq_some_iff.1 hw).2
              rw [Array.getElem_setIfInBounds h2]
              split
              · rename_i e; subst e; exact this.symm
              · rfl
          rw [this]
        refine .same hr (V := undef) ?_ (.x _ _ (.tu [] [] .nil))
        simp [Builtin.delete_, run_underlying hu, MapKept.run_getObj_map hw, hck, hfind, Result.andThen, MapKept.run_setObj_map _ hw]
        exact ⟨rfl, hsame⟩
      | some m v0 n U0 k0 h2 h3 hv0 =>
        show VSpec _ _ _ _ _ _ _ (putMap s b (eraseE l (0 + m)) c unit)
        rw [putMap_eq]
        have hm : 0 + m < es.size := by
          have := (List.getElem?_eq_some_iff.1 h3).1
          simpa using this
        refine ⟨_, undef, φ, ?_, map_turn hr hb hL hw (es' := es.eraseIdxIfInBounds (0 + m)) (c' := c) ?_ (Nat.le_of_ble_eq_true hwl) (hN (Nat.le_of_ble_eq_true hwl)), .x _ _ (.tu [] [] .nil)⟩
        · simp [Builtin.delete_, run_underlying hu, MapKept.run_getObj_map hw, hck, hfind, Result.andThen, MapKept.run_setObj_map _ hw]
          rfl
        · have : (es.eraseIdxIfInBounds (0 + m)).toList = es.toList.eraseIdx (0 + m) := by
            unfold Array.eraseIdxIfInBounds
            rw [dif_pos hm]; simp
          rw [this]
          exact hE.erase _
    · trivial
  · cases hx with
    | x _ _ hx =>
    cases hx with
    | y _ _ hx =>
    cases hx
    obtain ⟨_, hck⟩ := keyOk_sound (w := w) hq hk h1
    refine .same hr (V := undef) ?_ (.x _ _ (.tu [] [] .nil))
    simp [Builtin.delete_, run_underlying hu, hck, Result.andThen]
    rfl
  · trivial

theorem findB_sound (n : Nat) : ∀ {l : List (V × V × Nat)} {es : List MapEntry} {i : Nat} {r}, EntR sy φ l es → findB n l i = some r → ∃ m, r.1 = i + m ∧ es.findIdx? (fun e => (e.born : Int) == (Int.ofNat n)) = some m ∧ ∃ K U, es[m]? = some ⟨K, U, n⟩ ∧ VR sy φ r.2 K
  | _, _, i, r, .nil, h => by cases h
  | _, _, i, r, .cons k v b K U l es hk hv hs, h => by
    replace h : ifB (Nat.beq b n) (some (i, k)) (findB n l (i + 1)) = some r := h
    rw [beqN, ifB_dec] at h
    by_cases hb : b = n
    · rw [if_pos hb] at h
      obtain rfl := Option.some.inj h
      subst hb
      exact ⟨0, rfl, by simp [List.findIdx?_cons], K, U, rfl, hk⟩
    · rw [if_neg hb] at h
      obtain ⟨m, h1, h2, K', U', h3, h4⟩ := findB_sound n hs h
      refine ⟨m + 1, by omega, ?_, K', U', by simpa using h3, h4⟩
      have : ((b : Int) == Int.ofNat n) = false := by simp; omega
      rw [List.findIdx?_cons]
      simp only [this, h2]
      rfl

theorem entSt_sound (hr : Rel sy N0 φ s w) {t : TypeId} {x st v : V} {X ST U : Value} (hx : VR sy φ x X) (hst : VR sy φ st ST) (hv : VR sy φ v U) : USpec sy N0 P φ s w (Instr.entryStore t X ST U) (entSt x st v s) := by
  unfold entSt
  split
  · rename_i b
    cases hst with
    | i k z =>
      cases z with
      | negSucc => trivial
      | ofNat n =>
        show USpec _ _ _ _ _ _ _ (ifB (Nat.ble s.wlo b) _ R.bad)
        refine USpec.ifB fun hwl => ?_
        split
        · rename_i l c hb
          refine USpec.bind fun r hf => ?_
          cases hx with
          | x _ _ hx =>
          cases hx with
          | m _ L hL =>
          obtain ⟨L', es, hL', hw, hE, hN⟩ := hr.map _ _ _ hb
          obtain rfl : L = L' := by rw [hL] at hL'; exact Option.some.inj hL'
          obtain ⟨m, h1, h2, K, U', h3, h4⟩ := findB_sound n hE hf
          have h1 : r.1 = m := by rw [h1]; exact Nat.zero_add m
          rw [putMap_eq, h1]
          have hidx : es.findIdx? (fun e => (e.born : Int) == (Int.ofNat n)) = some m := by
            rw [← List.findIdx?_toArray] at h2
            simpa using h2
          refine ⟨_, φ, ?_, map_turn hr hb hL hw (es' := es.modify m fun e => { e with val := U }) (c' := c) ?_ (Nat.le_of_ble_eq_true hwl) (hN (Nat.le_of_ble_eq_true hwl)), rfl⟩
          · simp only [Instr.entryStore, Sem.run_bind, MapKept.run_getObj_map hw, Result.andThen_ok, asInt, asIntOf, Sem.run_pure, hidx, MapKept.run_setObj_map _ hw]
          · rw [Array.toList_modify]
            exact hE.set h3 h4 hv rfl
        · trivial
    | _ => trivial
  · trivial

theorem rMap_sound (hr : Rel sy N0 φ s w) (t : TypeId) (e : E) : VSpec sy N0 P φ s w (Instr.makeMap t none) (rMap e s) := by
  unfold rMap
  rw [T.setK_eq]
  have hrun : (Instr.makeMap t none).run P w = .ok (.map (some w.heap.size)) (w.alloc (.map #[] 0)) := by simp [Instr.makeMap, Result.andThen]
  have hh : (w.alloc (.map #[] 0)).heap = w.heap.push (.map #[] 0) := rfl
  let L : Loc := ⟨w.heap.size, 0, 0⟩
  have hrel := hr.name (w' := w.alloc (.map #[] 0)) (y := .map [] 0) (L := L) (by rw [hh]; simp) (by rw [hh]; simp [L]) (fun b x M hx hd hM => by
    have := (hr.dom b M hM).2
    exact ⟨by rw [hh, Array.getElem?_push, if_neg (by omega)], by simp only [L]; omega⟩) (.inr ⟨[], 0, #[], rfl, by rw [hh]; simp [L], .nil, fun _ hk => absurd (hr.n0 _ hk) (Nat.lt_irrefl _)⟩)
  refine ⟨_, _, _, hrun, Ext.of_new hr (fun b M e => Phi.set_old e (hr.none (Nat.le_refl _))) (fun _ hb => Phi.set_below hb) (Nat.le_succ _) rfl ⟨_, rfl⟩ rfl rfl rfl hh hrel, ?_⟩
  exact .x _ _ (.m _ L (Phi.set_same _ _ _))
end
end Ev

namespace Ev
open Go Go.RowKit

section
variable {sy : Sy} {N0 : Nat → Prop} {P : Program} {φ : Phi} {s : S} {w : World}

/-! ### Assertions -/
theorem assertI_sound (hr : Rel sy N0 φ s w) {t : TypeId} {want : Array (String × TypeId)} (hu : P.underlying t = some (.interface want)) {z : V} (hz : zeroOf P t = some z) (xt : TypeId) (ok : Bool) {x : V} {X : Value} (hx : VR sy φ x X) :
    VSpec sy N0 P φ s w (Instr.typeAssert X xt t ok) (assertI P want z ok x s) := by
  obtain ⟨Z, hZ, hzv⟩ := zeroOf_run (sy := sy) (φ := φ) hz
  have zero : ∀ {Y : Value}, (ok = true → (Instr.typeAssert Y xt t ok).run P w = .ok (.tuple #[Z, .bool false]) w) → VSpec sy N0 P φ s w (Instr.typeAssert Y xt t ok) (orZero z ok s) := by
    intro Y h
    unfold orZero
    refine VSpec.ifB fun e => .same hr (h e) ?_
    exact .x _ _ (.tu _ _ (.cons _ _ _ _ hzv (.cons _ _ _ _ (.b _) .nil)))
  unfold assertI
  split
  · rename_i d v
    cases hx with
    | x _ _ hx =>
    cases hx with
    | ic _ _ U hU =>
    split
    · rename_i i hi
      have hti : (typeInfo d).run P w = .ok i w := by simp [typeInfo, hi]
      split
      · rename_i hm
        unfold asIs
        cases ok with
        | true =>
          refine .same hr (V := .tuple #[.iface d U, .bool true]) ?_ (.x _ _ (.tu _ _ (.cons _ _ _ _ (.x _ _ (.ic _ _ _ hU)) (.cons _ _ _ _ (.b _) .nil))))
          simp [Instr.typeAssert, run_underlying hu, hti, hm, Result.andThen]
        | false =>
          refine .same hr (V := .iface d U) ?_ (.x _ _ (.ic _ _ _ hU))
          simp [Instr.typeAssert, run_underlying hu, hti, hm, Result.andThen]
      · rename_i m hm
        refine zero fun e => ?_
        subst e
        simp [Instr.typeAssert, run_underlying hu, hti, hm, hZ, Result.andThen]
    · trivial
  · cases hx with
    | x _ _ hx =>
    cases hx
    refine zero fun e => ?_
    subst e
    simp [Instr.typeAssert, run_underlying hu, hZ, Result.andThen]
  · trivial

theorem assertT_sound (hr : Rel sy N0 φ s w) {t : TypeId} {d0 : TypeDesc} (hu : P.underlying t = some d0) (hni : ∀ want, d0 ≠ .interface want) {z : V} (hz : zeroOf P t = some z) (xt : TypeId) (ok : Bool) {x : V} {X : Value} (hx : VR sy φ x X) :
    VSpec sy N0 P φ s w (Instr.typeAssert X xt t ok) (assertT t z ok x s) := by
  obtain ⟨Z, hZ, hzv⟩ := zeroOf_run (sy := sy) (φ := φ) hz
  unfold assertT
  split
  · rename_i d v
    cases hx with
    | x _ _ hx =>
    cases hx with
    | ic _ _ U hU =>
    rw [beqN, ifB_dec]
    by_cases hd : d = t
    · rw [if_pos hd]
      unfold asIs
      cases ok with
      | true =>
        refine .same hr (V := .tuple #[U, .bool true]) ?_ (.x _ _ (.tu _ _ (.cons _ _ _ _ hU (.cons _ _ _ _ (.b _) .nil))))
        cases d0 <;> first | exact absurd rfl (hni _) | simp [Instr.typeAssert, run_underlying hu, hd, Result.andThen]
      | false =>
        refine .same hr (V := U) ?_ hU
        cases d0 <;> first | exact absurd rfl (hni _) | simp [Instr.typeAssert, run_underlying hu, hd, Result.andThen]
    · rw [if_neg hd]
      unfold orZero
      refine VSpec.ifB fun e => ?_
      subst e
      refine .same hr (V := .tuple #[Z, .bool false]) ?_ (.x _ _ (.tu _ _ (.cons _ _ _ _ hzv (.cons _ _ _ _ (.b _) .nil))))
      cases d0 <;> first | exact absurd rfl (hni _) | simp [Instr.typeAssert, run_underlying hu, hd, hZ, Result.andThen]
  · cases hx with
    | x _ _ hx =>
    cases hx
    unfold orZero
    refine VSpec.ifB fun e => ?_
    subst e
    refine .same hr (V := .tuple #[Z, .bool false]) ?_ (.x _ _ (.tu _ _ (.cons _ _ _ _ hzv (.cons _ _ _ _ (.b _) .nil))))
    cases d0 <;> first | exact absurd rfl (hni _) | simp [Instr.typeAssert, run_underlying hu, hZ, Result.andThen]
  · trivial

theorem cassert_sound {K n : Nat} {e : E} {a : Act} (hr : Rel sy N0 φ s w) (he : EnvR sy φ K n e a) (x : Operand) (xt t : TypeId) (ok : Bool) :
    RSpec sy N0 P φ s w ((do pure (.value (← Instr.typeAssert (a.eval x) xt t ok)) : Sem Next).run P w) ((cassert P K x t ok).f e s) := by
  unfold cassert
  split
  · trivial
  · rename_i z hz
    split
    · trivial
    · rename_i want hu
      exact RSpec.op1 (F := fun X => Instr.typeAssert X xt t ok) hr he x fun v V hv => assertI_sound hr hu hz xt ok hv
    · rename_i d hni hu
      exact RSpec.op1 (F := fun X => Instr.typeAssert X xt t ok) hr he x fun v V hv => assertT_sound hr hu (fun want e => hni want e) hz xt ok hv

/-! ### Bytes -/
theorem bytesOf_eq (l : List UInt8) : ∀ n, n ≤ l.length → bytesOf l.length (enc l) n = (l.drop (l.length - n)).map fun b => [V.i 1 (Int.ofNat b.toNat)]
  | 0, _ => by rw [Nat.sub_zero, List.drop_length]; rfl
  | n + 1, h => by
    show (forceN (byteAt l.length (enc l) (Nat.sub l.length (Nat.succ n))) fun b => [V.i (nat_lit 1) (.ofNat b)] :: bytesOf l.length (enc l) n) = _
    rw [forceN_eq]
    have hlt : l.length - (n + 1) < l.length := by omega
    have h1 : byteAt l.length (enc l) (Nat.sub l.length (Nat.succ n)) = l[l.length - (n + 1)].toNat := byteAt_eq l _ hlt
    rw [h1, bytesOf_eq l n (by omega)]
    have : l.drop (l.length - (n + 1)) = l[l.length - (n + 1)] :: l.drop (l.length - n) := by
      rw [List.drop_eq_getElem_cons hlt]
      congr 1
      congr 1
      omega
    rw [this]
    rfl

theorem bytes_rows (l : List UInt8) : Rows 1 (bytesOf l.length (enc l) l.length) ∧ (bytesOf l.length (enc l) l.length).length = l.length ∧
    (bytesOf l.length (enc l) l.length).flatten = l.map fun b => V.i 1 (Int.ofNat b.toNat) := by
  rw [bytesOf_eq l l.length (Nat.le_refl _)]
  simp only [Nat.sub_self, List.drop_zero]
  refine ⟨fun x hx => ?_, by simp, ?_⟩
  · obtain ⟨b, _, rfl⟩ := List.mem_map.1 hx
    exact ⟨rfl, fun v hv => by
      cases hv with
      | head => rfl
      | tail _ h => cases h⟩
  · induction l with
    | nil => rfl
    | cons b l ih => rw [List.map_cons, List.flatten_cons, ih]; rfl

theorem bytes_VRs (l : List UInt8) : VRs sy φ (l.map fun b => V.i 1 (Int.ofNat b.toNat)) (l.map fun b => Value.int .u8 (b.toNat : Int)) := by
  induction l with
  | nil => exact .nil
  | cons b l ih => exact .cons _ _ _ _ (.i 1 _) ih

theorem toBytes_sound (hr : Rel sy N0 φ s w) {src dst e : TypeId} (hs : P.underlying src = some .string) (hd : P.underlying dst = some (.slice e)) (he : P.underlying e = some (.int .u8)) {x : V} {X : Value} (hx : VR sy φ x X) :
    VSpec sy N0 P φ s w (convert src dst X) (toBytes x s) := by
  unfold toBytes
  split
  · obtain ⟨b, rfl, rfl, rfl⟩ := hx.str_inv
    refine VSpec.ifB fun _ => ?_
    rw [newB_eq]
    obtain ⟨r1, r2, r3⟩ := bytes_rows b.data.toList
    have hsz : b.data.toList.length = b.size := str_size b
    have hcap := grownCap_le w b.size 0 e
    have hC : (bytesRow b (grownCap w b.size 0 e)).size = grownCap w b.size 0 e := by
      have : b.data.size = b.size := rfl
      simp [bytesRow, this]; omega
    have hrun := run_bytes_of_string (P := P) w src dst e b hs hd he
    have hrel := hr.newRows (w' := w.drew.alloc (.cells (bytesRow b (grownCap w b.size 0 e)) e ((bytesRow b (grownCap w b.size 0 e)).size, (bytesRow b (grownCap w b.size 0 e)).size + 1)))
      (C := bytesRow b (grownCap w b.size 0 e)) (et := e) (fz := ((bytesRow b (grownCap w b.size 0 e)).size, (bytesRow b (grownCap w b.size 0 e)).size + 1)) rfl (es := 1) (l := bytesOf b.data.toList.length (enc b.data.toList) b.data.toList.length) (str := 1)
      (by decide) r1 (us := b.data.toList.map fun b => Value.int .u8 (b.toNat : Int)) (by rw [r3]; exact bytes_VRs _) (fun k u hk => by
        have hlt : k < b.data.size := by
          have := (List.getElem?_eq_some_iff.1 hk).1
          simpa using this
        unfold bytesRow
        rw [Array.getElem?_append_left (by simpa using hlt)]
        simpa using hk) (by rw [hC]; simp only [List.length_map]; omega) (fun o ho => by simp only; omega) (fun e => absurd rfl e) (t := fillT (bytesOf b.data.toList.length (enc b.data.toList) b.data.toList.length) 0 .leaf) (fun i hi => by
        rw [fillT_get, if_pos (by omega)]; simp)
    rw [r2] at hrel
    refine ⟨_, _, _, hrun, Ext.of_new hr (fun b L e => Phi.set_old e (hr.none (Nat.le_refl _))) (fun _ hb => Phi.set_below hb) (Nat.le_succ _) rfl ⟨_, rfl⟩ rfl rfl rfl rfl hrel, ?_⟩
    exact .sl _ _ _ _ _ _ ⟨w.heap.size, 0, _⟩ 0 _ (Phi.set_same _ _ _) (.inr rfl) (by simp only; rw [hC]; omega) (by omega) (by simp only [Bool.false_eq_true, if_false]; omega)
  · trivial

theorem joinB_sound : ∀ {l : List V} {C : List Value} {c r : Nat}, VRs sy φ l C → joinB l c = some r → ∃ bs : List UInt8, C = bs.map (fun b => Value.int .u8 (b.toNat : Int)) ∧ r = c * 256 ^ bs.length + enc bs
  | _, _, c, r, .nil, h => by
    obtain rfl := Option.some.inj h
    exact ⟨[], rfl, by simp [enc]⟩
  | _, _, c, r, .cons v u l C hv hs, h => by
    cases hv with
    | i k z =>
      replace h : ifB (Nat.beq k (nat_lit 1)) (Int.rec (motive := fun _ => Option Nat) (fun n => ifB (Nat.blt n (nat_lit 256)) (forceN (Nat.add (Nat.mul c (nat_lit 256)) n) (joinB l)) none) (fun _ => none) z) none = some r := h
      obtain ⟨h1, h2⟩ := ifB_some h
      obtain rfl : k = 1 := Nat.eq_of_beq_eq_true h1
      cases z with
      | negSucc => cases h2
      | ofNat n =>
        obtain ⟨h3, h4⟩ := ifB_some h2
        rw [bltN] at h3
        have h3 : n < 256 := of_decide_eq_true h3
        rw [forceN_eq] at h4
        obtain ⟨bs, e1, e2⟩ := joinB_sound hs h4
        have hb : (UInt8.ofNat n).toNat = n := by simp; omega
        refine ⟨UInt8.ofNat n :: bs, ?_, ?_⟩
        · rw [List.map_cons, hb, ← e1]; rfl
        · rw [enc_cons, hb, e2, List.length_cons, Nat.pow_succ]
          show (c * 256 + n) * 256 ^ bs.length + enc bs = _
          rw [Nat.add_mul, Nat.mul_assoc, Nat.mul_comm 256 (256 ^ bs.length)]; omega
    | _ => cases h

theorem allBy_sound : ∀ {l : List V} {C : List Value}, VRs sy φ l C → allBy l = true → ∃ bs : List UInt8, C = bs.map (fun b => Value.int .u8 (b.toNat : Int))
  | _, _, .nil, _ => ⟨[], rfl⟩
  | _, _, .cons v u l C hv hs, h => by
    cases hv with
    | i k z =>
      cases z with
      | negSucc => cases h
      | ofNat n =>
        replace h : ifB (Nat.beq k (nat_lit 1)) (ifB (Nat.blt n (nat_lit 256)) (allBy l) false) false = true := h
        cases h1 : Nat.beq k (nat_lit 1) with
        | false => rw [h1] at h; cases h
        | true =>
        cases h2 : Nat.blt n (nat_lit 256) with
        | false => rw [h1, h2] at h; cases h
        | true =>
        rw [h1, h2] at h
        obtain rfl : k = 1 := Nat.eq_of_beq_eq_true h1
        rw [bltN] at h2
        have h2 : n < 256 := of_decide_eq_true h2
        obtain ⟨bs, e1⟩ := allBy_sound hs h
        have hb : (UInt8.ofNat n).toNat = n := by simp; omega
        refine ⟨UInt8.ofNat n :: bs, ?_⟩
        rw [List.map_cons, hb, ← e1]; rfl
    | x _ _ hv =>
      cases hv with
      | y _ _ hv =>
        cases hv with
        | ub b =>
          obtain ⟨bs, e1⟩ := allBy_sound hs h
          exact ⟨b :: bs, by rw [List.map_cons, ← e1]⟩
        | _ => cases h
      | _ => cases h
    | _ => cases h

theorem txtV_sound {l : List V} {C : List Value} {n : Nat} {v : V} (hs : VRs sy φ l C) (h : txtV l n = some v) : ∃ bs : List UInt8, C = bs.map (fun b => Value.int .u8 (b.toNat : Int)) ∧ (bs.length = n → VR sy φ v (.string ⟨bs.toArray⟩)) := by
  unfold txtV at h
  cases hj : joinB l (nat_lit 0) with
  | some c =>
    rw [hj] at h
    obtain rfl : V.s n c = v := Option.some.inj h
    obtain ⟨bs, e1, e2⟩ := joinB_sound hs hj
    refine ⟨bs, e1, fun hn => .s _ _ _ (by simpa using hn) ?_⟩
    rw [e2]
    simp
  | none =>
    rw [hj] at h
    obtain ⟨h1, h2⟩ := ifB_some (x := some (V.x (.y (.tx n)))) h
    obtain rfl := Option.some.inj h2
    obtain ⟨bs, e1⟩ := allBy_sound hs h1
    exact ⟨bs, e1, fun hn => .x _ _ (.y _ _ (.tx _ _ (by simpa using hn)))⟩

theorem toStr_sound (hr : Rel sy N0 φ s w) {src dst e : TypeId} (hs : P.underlying src = some (.slice e)) (he : P.underlying e = some (.int .u8)) (hd : P.underlying dst = some .string) {x : V} {X : Value} (hx : VR sy φ x X) :
    VSpec sy N0 P φ s w (convert src dst X) (toStr x s) := by
  unfold toStr
  split
  · rename_i b o len cap es ex
    cases hx with
    | sl _ _ _ _ _ _ L x0 cp hL hxa hroom hlc hcap =>
      rw [beqN, ifB_dec]
      by_cases h0 : len = 0
      · subst h0
        rw [if_pos rfl]
        refine .same hr (V := .string ⟨[].toArray⟩) ?_ (.s _ _ _ rfl rfl)
        exact run_convert_bytes_back (P := P) w src dst e ⟨L.blk, x0, none⟩ cp [] hs he hd (fun j hj => absurd hj (by simp))
      · rw [if_neg h0]
        refine VSpec.bind fun l hl => VSpec.bind fun v hc => ?_
        obtain ⟨L', hL', us, h1, h2, h3⟩ := loadN_sound hr hl
        obtain rfl : L = L' := by rw [hL] at hL'; exact Option.some.inj hL'
        obtain ⟨bs, e1, e2⟩ := txtV_sound h1 hc
        have hlen : bs.length = len := by rw [← h2, h1.length, e1]; simp
        have hx0 : x0 = L.base + o := hxa.resolve_left (by omega)
        refine .same hr (V := .string ⟨bs.toArray⟩) ?_ ?_
        · have := run_convert_bytes_back (P := P) w src dst e ⟨L.blk, x0, none⟩ cp bs hs he hd (fun j hj => by
            have := h3 j (Value.int .u8 (bs[j].toNat : Int)) (by rw [e1]; simp [hj])
            rw [hx0, Addr.add_lit]
            exact this)
          rw [hlen] at this
          exact this
        · exact e2 hlen
  · cases hx with
    | x _ _ hx =>
    cases hx
    refine .same hr (V := .string .empty) ?_ (.s _ _ _ rfl rfl)
    rw [run_convert_bytes_string w src dst e none 0 0 hs he hd]
    simp [Conv.bytesToString]
  · trivial

/-! ### Pointers without a type; a row of bytes that becomes a text's -/
theorem liesAt_one {u : TypeId} (hc : P.cellsOf u ≠ 0) (count : Nat) (hn : 1 ≤ count) : liesAt P P.depth u count 0 u 1 = true := by
  have hd : P.depth = (2 * (P.types.size + Made.depth) + 1) + 1 := rfl
  rw [hd]
  simp only [liesAt, Bool.or_eq_true]
  left
  rw [hd]
  simp [rowAt, hc, hn, sameLayout]

theorem cellsOf_of_szOf {t : TypeId} {n : Nat} (h : szOf P t = some n) : P.cellsOf t = n := by
  obtain ⟨i, h1, h2⟩ := szOf_sound h
  unfold Program.cellsOf
  rw [h1]; exact h2

theorem run_viewAt {r n : Nat} {et : TypeId} (h : w.shape? r = some (et, n)) : (viewAt r).run P w = .ok none w := by
  simp [viewAt, shape, Sem.run, h, Result.andThen]
theorem run_seenAt {a : Addr} {n : Nat} {et : TypeId} (h : w.shape? a.block = some (et, n)) : (Conv.seenAt a).run P w = .ok a w := by
  simp [Conv.seenAt, run_viewAt h, Result.andThen]
theorem run_cellsIn {r n : Nat} {et : TypeId} (h : w.shape? r = some (et, n)) : (cellsIn r).run P w = .ok (some n) w := by
  simp [cellsIn, shape, Sem.run, h, Result.andThen]
theorem run_variablesAt {a : Addr} {n : Nat} {et u : TypeId} {m : Nat} (h : w.shape? a.block = some (et, n)) : (variablesAt a u m).run P w = .ok (liesAt P P.depth et (n / P.cellsOf et) a.off u m) w := by
  simp [variablesAt, shape, Sem.run, h, Result.andThen]

theorem uTo_sound (hr : Rel sy N0 φ s w) {src dst t : TypeId} {n : Nat} (hs : P.underlying src = some (.pointer t)) (hd : P.underlying dst = some .unsafePointer) (hz : szOf P t = some (n + 1)) {x : V} {X : Value} (hx : VR sy φ x X) :
    VSpec sy N0 P φ s w (convert src dst X) (uTo x s) := by
  unfold uTo
  split
  · cases hx with
    | x _ _ hx =>
    cases hx
    refine .same hr (V := .pointer none) ?_ (.x _ _ .pn)
    simp [convert, run_underlying hs, run_underlying hd, Conv.unsafePointer, Result.andThen]
  · rename_i b o
    split
    · rename_i es m t' ro k hb
      refine VSpec.ifB fun ho => ?_
      cases hx with
      | p _ _ L hL =>
      obtain ⟨L', hL', hB, _⟩ := hr.cell _ _ _ _ _ _ hb
      obtain rfl : L = L' := by rw [hL] at hL'; exact Option.some.inj hL'
      obtain ⟨et, het⟩ := hB.shape
      rw [bltN] at ho
      have ho : o < es * m := of_decide_eq_true ho
      have hext := hB.ext
      refine .same hr (V := .pointer (some ⟨L.blk, L.base + o, none⟩)) ?_ (.p _ _ _ hL)
      have h1 : ¬ (L.base + L.room ≤ L.base + o) := by omega
      have s1 := run_seenAt (P := P) (a := ⟨L.blk, L.base + o, none⟩) het
      have s2 := run_cellsIn (P := P) het
      simp [convert, run_underlying hs, run_underlying hd, Conv.unsafePointer, s1, s2, Result.andThen, run_szOf hz w, h1]
    · trivial
  · trivial

theorem uFrom_sound (hr : Rel sy N0 φ s w) {src dst u : TypeId} {n : Nat} (hs : P.underlying src = some .unsafePointer) (hd : P.underlying dst = some (.pointer u)) (hz : szOf P u = some (n + 1)) {x : V} {X : Value} (hx : VR sy φ x X) :
    VSpec sy N0 P φ s w (convert src dst X) (uFrom u (n + 1) x s) := by
  unfold uFrom
  split
  · cases hx with
    | x _ _ hx =>
    cases hx
    refine .same hr (V := .pointer none) ?_ (.x _ _ .pn)
    simp [convert, run_underlying hs, run_underlying hd, Conv.unsafePointer, Result.andThen]
  · rename_i b o
    split
    · rename_i es m t' ro k hb
      refine VSpec.ifB fun hk => VSpec.ifB fun ho => VSpec.ifB fun hm => ?_
      cases hx with
      | p _ _ L hL =>
      obtain ⟨L', hL', hB, _⟩ := hr.cell _ _ _ _ _ _ hb
      obtain rfl : L = L' := by rw [hL] at hL'; exact Option.some.inj hL'
      have hk : k = u + 2 := Nat.eq_of_beq_eq_true hk
      have ho : o = 0 := Nat.eq_of_beq_eq_true ho
      have hm : n + 1 ≤ es * m := Nat.le_of_ble_eq_true hm
      subst hk; subst ho
      obtain ⟨het, hbase⟩ := hB.typ (Nat.le_add_left 2 u)
      have het : w.shape? L.blk = some (u, L.base + L.room) := het
      have hext := hB.ext
      have hc := cellsOf_of_szOf hz
      refine .same hr (V := .pointer (some ⟨L.blk, L.base + 0, none⟩)) ?_ (.p _ _ _ hL)
      rw [hbase] at het ⊢
      have hl := liesAt_one (P := P) (u := u) (by omega) ((0 + L.room) / P.cellsOf u) (by
        rw [hc]
        exact (Nat.le_div_iff_mul_le (by omega)).2 (by omega))
      have s1 := run_seenAt (P := P) (a := ⟨L.blk, 0 + 0, none⟩) het
      have s2 := run_variablesAt (P := P) (a := ⟨L.blk, 0 + 0, none⟩) (u := u) (m := 1) het
      rw [hl] at s2
      simp only [Nat.add_zero] at s1 s2 ⊢
      simp [convert, run_underlying hs, run_underlying hd, Conv.unsafePointer, s1, s2, Result.andThen, run_szOf hz w]
    · trivial
  · trivial

theorem uData_sound (hr : Rel sy N0 φ s w) {ts : Array TypeId} {ty : TypeId} {x : V} {X : Value} (hx : VR sy φ x X) : VSpec sy N0 P φ s w (Builtin.unsafeSliceData_ ts ty #[X]) (uData x s) := by
  unfold uData
  split
  · cases hx with
    | x _ _ hx =>
    cases hx
    exact .same hr (V := .pointer none) (Lib.run_unsafeSliceData_nil (P := P) w ts ty 0 0) (.x _ _ .pn)
  · rename_i b o len cap es ex
    refine VSpec.ifB fun hc => ?_
    rw [bltN] at hc
    have hc : 0 < cap := of_decide_eq_true hc
    cases hx with
    | sl _ _ _ _ _ _ L x0 cp hL hxa hroom hlc hcap =>
    have hcp : cp ≠ 0 := by
      cases ex with
      | true => simp at hcap; omega
      | false => simp at hcap; omega
    have hx0 : x0 = L.base + o := hxa.resolve_left hcp
    subst hx0
    exact .same hr (Lib.run_unsafeSliceData_row (P := P) w ts ty ⟨L.blk, L.base + o, none⟩ len cp hcp) (.p _ _ _ hL)
  · trivial

theorem freeze_heap {w : World} {a : Addr} {n k : Nat} (h : k ≠ a.block) : (w.freeze a n).heap[k]? = w.heap[k]? := by
  unfold World.freeze
  split
  · rfl
  · simp only [Array.getElem?_modify]
    rw [if_neg (Ne.symm h)]
theorem freeze_size {w : World} {a : Addr} {n : Nat} : (w.freeze a n).heap.size = w.heap.size := by
  unfold World.freeze
  split
  · rfl
  · simp
theorem freeze_os {w : World} {a : Addr} {n : Nat} : (w.freeze a n).os = w.os ∧ (w.freeze a n).tape = w.tape ∧ (w.freeze a n).output = w.output := by
  unfold World.freeze
  split <;> exact ⟨rfl, rfl, rfl⟩

theorem uStr_sound (hr : Rel sy N0 φ s w) {pt ty u : TypeId} {ts : List TypeId} (hp : P.underlying pt = some (.pointer u)) (hz : szOf P u = some 1) {x y : V} {X Y : Value} (hx : VR sy φ x X) (hy : VR sy φ y Y) :
    VSpec sy N0 P φ s w (Builtin.unsafeString_ ⟨pt :: ts⟩ ty #[X, Y]) (uStr u x y s) := by
  have hc := cellsOf_of_szOf hz
  have hts : Builtin.unsafeString_ ⟨pt :: ts⟩ ty #[X, Y] = Builtin.unsafeString_ #[pt, pt] ty #[X, Y] := rfl
  rw [hts]
  unfold uStr
  split
  · rename_i k n
    refine VSpec.ifB fun hk => ?_
    have hk : k = 0 := Nat.eq_of_beq_eq_true hk
    subst hk
    cases hy
    cases hn : Nat.beq n 0 with
    | true =>
      have hn : n = 0 := Nat.eq_of_beq_eq_true hn
      subst hn
      rw [ifB_true]
      split
      · cases hx with
        | x _ _ hx =>
        cases hx
        exact .same hr (Lib.run_unsafeString_none (P := P) w pt pt ty none) (.s _ _ _ rfl rfl)
      · cases hx with
        | p _ _ L hL => exact .same hr (Lib.run_unsafeString_none (P := P) w pt pt ty (some _)) (.s _ _ _ rfl rfl)
      · trivial
    | false =>
      have hn : n ≠ 0 := Nat.ne_of_beq_eq_false hn
      rw [ifB_false]
      split
      · rename_i b o
        split
        · rename_i es m t' ro k hb
          refine VSpec.ifB fun hk => VSpec.ifB fun ho => VSpec.ifB fun hw => VSpec.ifB fun hlong => VSpec.bind fun l hl => VSpec.bind fun v hcc => ?_
          rw [T.setK_eq]
          cases hx with
          | p _ _ L hL =>
          obtain ⟨L', hL', hB, hro⟩ := hr.cell _ _ _ _ _ _ hb
          obtain rfl : L = L' := by rw [hL] at hL'; exact Option.some.inj hL'
          have hk : k = u + 2 := Nat.eq_of_beq_eq_true hk
          have ho : o = 0 := Nat.eq_of_beq_eq_true ho
          have hw : s.wlo ≤ b := Nat.le_of_ble_eq_true hw
          subst hk; subst ho
          obtain ⟨het, hbase⟩ := hB.typ (Nat.le_add_left 2 u)
          have het : w.shape? L.blk = some (u, L.base + L.room) := het
          obtain ⟨L', hL', us, h1, h2, h3⟩ := loadN_sound hr hl
          obtain rfl : L = L' := by rw [hL] at hL'; exact Option.some.inj hL'
          obtain ⟨bs, e1, e2⟩ := txtV_sound h1 hcc
          have hlen : bs.length = n := by rw [← h2, h1.length, e1]; simp
          rw [bltN] at hlong
          have hlong : n < tooLong := of_decide_eq_true hlong
          unfold tooLong at hlong
          rw [hbase] at h3 het ⊢
          have hcell : ∀ j x, bs[j]? = some x → w.cell? ((⟨L.blk, 0, none⟩ : Addr).add j) = some (.int .u8 x.toNat) := fun j x hj => by
            have := h3 j (Value.int .u8 (x.toNat : Int)) (by rw [e1]; simp [hj])
            rw [Addr.add_lit]; simpa using this
          have hle : bs.length ≤ 0 + L.room := by
            apply Nat.le_of_not_lt
            intro hlt
            have hj : (0 + L.room) < bs.length := hlt
            have := hcell (0 + L.room) _ (List.getElem?_eq_getElem hj)
            rw [Addr.add_lit] at this
            unfold World.cell? at this
            unfold World.shape? at het
            split at het
            · rename_i C e f hC
              simp only [Option.some.injEq, Prod.mk.injEq] at het
              simp only [hC] at this
              rw [Array.getElem?_eq_none (by omega)] at this
              simp at this
            · cases het
          have hrun := Lib.run_unsafeString_row (P := P) w pt pt ty u hp hc L.blk (0 + L.room) het bs (fun e => hn (by rw [← hlen, e]; rfl)) hle (by omega) hcell
          rw [hlen] at hrun
          have hkill := hr.kill b
          have hne : ∀ c xc Mc, s.heap.get c = some xc → xc ≠ .dead → φ c = some Mc → c ≠ b → Mc.blk ≠ L.blk := fun c xc Mc hcx hxd hMc hcb =>
            (hr.inj c b xc _ Mc L hcx hb hxd (by simp) hMc hL hcb).resolve_right fun hh => by have := hh.2.1; omega
          have hrel : Rel sy N0 φ ⟨s.heap.set b .dead, s.next, s.wlo⟩ (w.freeze ⟨L.blk, 0, none⟩ n) := by
            have hget : ∀ c xc, (s.heap.set b .dead).get c = some xc → xc ≠ .dead → c ≠ b ∧ s.heap.get c = some xc := by
              intro c xc h hxd
              rw [T.get_set] at h
              by_cases hcb : c = b
              · rw [if_pos hcb] at h; exact absurd (Option.some.inj h).symm hxd
              · rw [if_neg hcb] at h; exact ⟨hcb, h⟩
            refine ⟨fun k hk => by rw [freeze_size]; exact hkill.n0 k hk, hkill.gl, fun c M h => by rw [freeze_size]; exact hkill.dom c M h, hkill.wlo, fun c es n t ro str h => ?_, fun c l k h => ?_, hkill.inj⟩
            · obtain ⟨M, m1, m2, m3⟩ := hkill.cell c es n t ro str h
              obtain ⟨g1, g2⟩ := hget c _ h (by simp)
              exact ⟨M, m1, m2.keep (freeze_heap (hne c _ M g2 (by simp) m1 g1)) (fun _ _ h => h), m3⟩
            · obtain ⟨M, es, m1, m2, m3, m4⟩ := hkill.map c l k h
              obtain ⟨g1, g2⟩ := hget c _ h (by simp)
              exact ⟨M, es, m1, by rw [freeze_heap (hne c _ M g2 (by simp) m1 g1)]; exact m2, m3, m4⟩
          refine ⟨w.freeze ⟨L.blk, 0, none⟩ n, _, φ, hrun, ⟨fun _ _ h => h, fun _ _ => rfl, Nat.le_refl _, rfl, fun c _ x' h1 h2 => T.live_set hb (by simp) c x' h1 h2, ⟨freeze_os.1, freeze_os.2.1, freeze_os.2.2, by rw [freeze_size]; exact Nat.le_refl _, fun k hk => freeze_heap fun e => hro hw (by have e : k = L.blk := e; rw [← e]; exact hk)⟩, hrel⟩, e2 hlen⟩
        · trivial
      · trivial
  · trivial

theorem cconv_sound {K n : Nat} {e : E} {a : Act} (hr : Rel sy N0 φ s w) (he : EnvR sy φ K n e a) (src dst : TypeId) (x : Operand) :
    RSpec sy N0 P φ s w ((do pure (.value (← convert src dst (a.eval x))) : Sem Next).run P w) ((cconv P K src dst x).f e s) := by
  unfold cconv
  split
  · trivial
  · rename_i d hs
    split
    · rename_i k hd
      refine RSpec.op1 (F := convert src dst) hr he x fun v V hv => ?_
      unfold toInt
      split
      · rename_i k' z
        cases hv
        refine VSpec.int hr ?_
        rw [kd_kn]
        cases d <;> simp [convert, run_underlying hs, run_underlying hd, Conv.intToInt, Result.andThen]
      · rename_i j lo hi
        rw [beqN, ifB_dec]
        by_cases h0 : kn k = 0
        rotate_left
        · rw [if_neg h0]
          refine VSpec.ifB fun h => VSpec.ifB fun hk1 => VSpec.ifB fun hlim => ?_
          rw [forceN_eq]
          have h : kn k = 2 := Nat.eq_of_beq_eq_true h
          have hk : k = .u64 := by rw [← kd_kn k, h]; rfl
          subst hk
          have hk1 : jKind j = 1 := Nat.eq_of_beq_eq_true hk1
          cases hv with
          | x _ _ hv =>
          cases hv with
          | y _ _ hv =>
          cases hv with
          | si _ _ _ hz =>
            have hu := sy.u64 j hk1
            refine .same hr (V := sy.v (j + 4)) ?_ (.x _ _ (.y _ _ (.sym (j + 4))))
            rw [hu]
            rw [bltN] at hlim
            have hlim : hi < nthN limT 0 := of_decide_eq_true hlim
            obtain ⟨m, hm⟩ : ∃ m : Nat, sy.n j = Int.ofNat m := ⟨(sy.n j).toNat, by simp; omega⟩
            have hw : IntKind.wrap .u64 (sy.n j) = sy.n j := by
              rw [hm]
              refine limT_wrap 2 m ?_
              have h1 := hz.2
              rw [hm] at h1
              have h2 : nthN limT 0 = 9223372036854775808 := rfl
              have h3 : nthN limT 2 = 18446744073709551616 := rfl
              simp at h1
              omega
            cases d <;> simp [convert, run_underlying hs, run_underlying hd, Conv.intToInt, Result.andThen, hw]
        rw [if_pos h0]
        refine VSpec.ifB fun hlim => ?_
        have hk : k = .i64 := by rw [← kd_kn k, h0]; rfl
        subst hk
        cases hv with
        | x _ _ hv =>
        cases hv with
        | y _ _ hv =>
        cases hv with
        | si _ _ _ hz =>
          refine .same hr (V := .int .i64 (sy.n j)) ?_ (.x _ _ (.y _ _ (.si j lo hi hz)))
          rw [bltN] at hlim
          have hlim : hi < nthN limT 0 := of_decide_eq_true hlim
          obtain ⟨m, hm⟩ : ∃ m : Nat, sy.n j = Int.ofNat m := ⟨(sy.n j).toNat, by simp; omega⟩
          have hw : IntKind.wrap .i64 (sy.n j) = sy.n j := by
            rw [hm]
            exact limT_wrap 0 m (by have := hz.2; rw [hm] at this; simp at this; omega)
          cases d <;> simp [convert, run_underlying hs, run_underlying hd, Conv.intToInt, Result.andThen, hw]
      · rename_i k' t q
        cases hv with
        | x _ _ hv =>
        cases hv with
        | y _ _ hv =>
        cases hv with
        | e _ _ _ hq =>
        refine VSpec.e hr hq fun hk => ?_
        have hd9 : opDen (16 * 9 + kn k) (den sy t) (den sy t) = k.wrap (den sy t) := by
          unfold opDen; rw [(code_div hk).1, (code_div hk).2, kd_kn]; try rfl
        rw [hd9, kd_kn]
        cases d <;> simp [convert, run_underlying hs, run_underlying hd, Conv.intToInt, Result.andThen]
      · rename_i t q
        cases hv with
        | x _ _ hv =>
        cases hv with
        | y _ _ hv =>
        cases hv with
        | fe _ _ hq =>
        refine VSpec.bind fun z hz => VSpec.ifB fun h1 => ?_
        subst h1
        have hz := lookQ_sound hq hz
        rw [cdDen_big] at hz
        refine VSpec.e hr hq fun hk => ?_
        have hdd : opDen (16 * 22 + kn k) (den sy t) (den sy t) = (ftoi k (den sy t).toNat).getD 0 := by
          unfold opDen; rw [(code_div hk).1, (code_div hk).2, kd_kn]; try rfl
        rw [hdd, kd_kn]
        rw [kd_kn] at hz
        obtain ⟨n, hn⟩ := Option.isSome_iff_exists.1 hz
        rw [hn]
        unfold ftoi at hn
        split at hn
        · rename_i n' hn'
          split at hn
          · rename_i hb
            obtain rfl := Option.some.inj hn
            cases d <;> simp [convert, run_underlying hs, run_underlying hd, Conv.floatToInt, Result.andThen, hn', hb]
          · cases hn
        · cases hn
      · trivial
    · rename_i k hd
      split
      · rename_i k2
        refine RSpec.op1 (F := convert src dst) hr he x fun v V hv => ?_
        unfold toFlo
        split
        · cases hv
          refine .same hr ?_ (.x _ _ (.y _ _ (.f _ _)))
          simp [convert, run_underlying hs, run_underlying hd, Conv.intToFloat, Result.andThen]
        · rename_i k' t q
          cases hv with
          | x _ _ hv =>
          cases hv with
          | y _ _ hv =>
          cases hv with
          | e _ _ _ hq =>
          split
          · have hv := YR.fe (sy := sy) (φ := φ) (.o 336 t t) q hq
            have e : (den sy (.o 336 t t)).toNat = FloatKind.f64.nearest (den sy t) := Int.toNat_natCast _
            rw [e] at hv
            refine .same hr ?_ (.x _ _ (.y _ _ hv))
            simp [convert, run_underlying hs, run_underlying hd, Conv.intToFloat, Result.andThen]
          · trivial
        · trivial
      · trivial
    · rename_i hd
      split
      · refine RSpec.op1 (F := convert src dst) hr he x fun v V hv => ?_
        unfold sameStr
        split
        · obtain ⟨b, rfl, h1, h2⟩ := hv.str_inv
          refine .same hr (V := .string b) ?_ (.s _ _ _ h1 h2)
          simp [convert, run_underlying hs, run_underlying hd, Result.andThen]
        · trivial
      · rename_i el
        split
        · rename_i hel
          exact RSpec.op1 (F := convert src dst) hr he x fun v V hv => toStr_sound hr hs hel hd hv
        · trivial
      · trivial
    · rename_i el hd
      split
      · split
        · rename_i hel
          exact RSpec.op1 (F := convert src dst) hr he x fun v V hv => toBytes_sound hr hs hd hel hv
        · trivial
      · trivial
    · rename_i hd
      split
      · split
        · rename_i hz
          exact RSpec.op1 (F := convert src dst) hr he x fun v V hv => uTo_sound hr hs hd hz hv
        · trivial
      · trivial
    · rename_i hd
      split
      · split
        · rename_i hz
          exact RSpec.op1 (F := convert src dst) hr he x fun v V hv => uFrom_sound hr hs hd hz hv
        · trivial
      · trivial
    · trivial
end
end Ev

namespace Ev
open Go Go.RowKit
section
variable {sy : Sy} {N0 : Nat → Prop} {P : Program} {φ : Phi} {s : S} {w : World}

theorem setCells_append (b : Nat) : ∀ (us vs : List Value) (o : Nat) (w : World), w.setCells b o (us ++ vs) = (w.setCells b o us).setCells b (o + us.length) vs
  | [], vs, o, w => rfl
  | u :: us, vs, o, w => by
    show (w.setCell ⟨b, o, none⟩ u).setCells b (o + 1) (us ++ vs) = ((w.setCell ⟨b, o, none⟩ u).setCells b (o + 1) us).setCells b (o + (us.length + 1)) vs
    rw [setCells_append b us vs, show o + 1 + us.length = o + (us.length + 1) by omega]

theorem zeroCells_reps (Z : Array Value) : ∀ n, (Builtin.zeroCells Z n).toList = (List.replicate n Z.toList).flatten
  | 0 => by simp [Builtin.zeroCells]
  | n + 1 => by
    have ih := zeroCells_reps Z n
    rw [List.replicate_succ', List.flatten_append, ← ih]
    unfold Builtin.zeroCells
    rw [Array.toList_map, Array.toList_map, Array.toList_range, Array.toList_range, Nat.succ_mul, List.range_add, List.map_append]
    congr 1
    rw [List.map_map]
    apply List.ext_getElem?
    intro i
    by_cases hi : i < Z.size
    · have hm : (n * Z.size + i) % Z.size = i := by
        rw [Nat.add_comm, Nat.add_mul_mod_self_right, Nat.mod_eq_of_lt hi]
      simp [hi, hm]
    · simp [hi]

theorem clearN_sound {z : List V} {Z : List Value} {es b : Nat} (hz : VRs sy φ z Z) (hes : z.length = es) : ∀ (n o : Nat) (s : S) (w : World), Rel sy N0 φ s w →
    clearN z es b n o s = R.bad ∨ ∃ s' L, clearN z es b n o s = .val unit s' ∧ (0 < n → φ b = some L) ∧ Ext sy N0 φ s w φ s' (w.setCells L.blk (L.base + o) (List.replicate n Z).flatten) ∧
      (∀ j, j < n * es → (w.cell? ⟨L.blk, L.base + o + j, none⟩).isSome = true) ∧ (∀ j, j < n * es → w.frozen? ⟨L.blk, L.base + o + j, none⟩ = false) ∧ (0 < n → ∀ v ∈ z, v.flat = true)
  | 0, o, s, w, hr => .inr ⟨s, ⟨0, 0, 0⟩, rfl, fun h => absurd h (by omega), Ext.refl hr, fun j hj => absurd hj (by omega), fun j hj => absurd hj (by omega), fun h => absurd h (by omega)⟩
  | n + 1, o, s, w, hr => by
    have e : clearN z es b (n + 1) o s = storeN s b o z R.bad fun s => clearN z es b n (Nat.add o es) s := by
      show storeN s b o z R.bad (fun s => forceN (Nat.add o es) fun o => clearN z es b n o s) = _
      simp only [forceN_eq]
    rw [e]
    rcases storeN_sound hr b o z R.bad (fun s => clearN z es b n (Nat.add o es) s) with e1 | ⟨s1, e1, e2, e3, elv, e4, L, hL, hN, hc, hf, hrel⟩
    · exact .inl e1
    rw [e1]
    have hr1 := hrel Z hz
    have hx1 : Ext sy N0 φ s w φ s1 (w.setCells L.blk (L.base + o) Z) := ⟨fun _ _ h => h, fun _ _ => rfl, by rw [e2]; exact Nat.le_refl _, e3, fun c _ => elv c, below_setCells _ _ _ hN, hr1⟩
    have hZ : Z.length = es := by rw [← hz.length, hes]
    rcases clearN_sound hz hes n (Nat.add o es) s1 _ hr1 with h2 | ⟨s2, L2, h2, hL2, hx2, hc2, hf2, _⟩
    · exact .inl h2
    refine .inr ⟨s2, L, h2, fun _ => hL, ?_, fun j hj => ?_, fun j hj => ?_, fun _ => e4⟩
    · cases n with
      | zero =>
        have hx2 : Ext sy N0 φ s1 (w.setCells L.blk (L.base + o) Z) φ s2 (w.setCells L.blk (L.base + o) Z) := hx2
        have := hx1.trans hx2
        simpa using this
      | succ n =>
        have hLL : L = L2 := Option.some.inj (hL.symm.trans (hL2 (by omega)))
        subst hLL
        have := hx1.trans hx2
        rw [List.replicate_succ, List.flatten_cons, setCells_append, hZ, Nat.add_assoc]
        exact this
    · by_cases hj' : j < es
      · exact hc j (by rw [hes]; exact hj')
      · cases n with
        | zero => rw [Nat.zero_add, Nat.one_mul] at hj; exact absurd hj hj'
        | succ n =>
          have hLL : L = L2 := Option.some.inj (hL.symm.trans (hL2 (by omega)))
          subst hLL
          have := hc2 (j - es) (by rw [Nat.succ_mul] at hj; omega)
          have ho : L.base + Nat.add o es + (j - es) = L.base + o + j := by show L.base + (o + es) + (j - es) = _; omega
          rw [ho, World.cell?_setCells_out _ _ _ _ _ (fun _ _ => by simp only; omega)] at this
          exact this
    · by_cases hj' : j < es
      · exact hf j (by rw [hes]; exact hj')
      · cases n with
        | zero => rw [Nat.zero_add, Nat.one_mul] at hj; exact absurd hj hj'
        | succ n =>
          have hLL : L = L2 := Option.some.inj (hL.symm.trans (hL2 (by omega)))
          subst hLL
          have := hf2 (j - es) (by rw [Nat.succ_mul] at hj; omega)
          have ho : L.base + Nat.add o es + (j - es) = L.base + o + j := by show L.base + (o + es) + (j - es) = _; omega
          rw [ho, World.frozen?_setCells] at this
          exact this

theorem clearR_sound (hr : Rel sy N0 φ s w) {t el ty : TypeId} (hu : P.underlying t = some (.slice el)) {z : V} (hz : zeroOf P el = some z) {x : V} {X : Value} (hx : VR sy φ x X) :
    VSpec sy N0 P φ s w (Builtin.clear_ #[t] ty #[X]) (clearR z.cells (lenL z.cells) x s) := by
  unfold clearR
  split
  · cases hx with
    | x _ _ hx =>
    cases hx
    exact .same hr (V := .tuple #[]) (by simp [Builtin.clear_, run_underlying hu, Result.andThen]) (.x _ _ (.tu _ _ .nil))
  · rename_i b o len cap es ex
    cases hx with
    | sl _ _ _ _ _ _ L x0 cp hL hxa hroom hlc hcap =>
    obtain ⟨Z, h1, _, h3, _⟩ := zeroOf_cells (P := P) (sy := sy) (φ := φ) hz
    rw [lenL_eq]
    rcases clearN_sound h3 rfl len o s w hr with e | ⟨s', L', e, hL', hxt, hc, hf, hfl⟩
    · rw [e]; trivial
    · rw [e]
      cases len with
      | zero =>
        have hxt : Ext sy N0 φ s w φ s' w := hxt
        exact ⟨w, .tuple #[], φ, by simp [Builtin.clear_, run_underlying hu, Result.andThen], hxt, .x _ _ (.tu _ _ .nil)⟩
      | succ n =>
        have hLL : L = L' := Option.some.inj (hL.symm.trans (hL' (by omega)))
        subst hLL
        have hx0 : x0 = L.base + o := hxa.resolve_left (by omega)
        subst hx0
        refine ⟨_, .tuple #[], φ, ?_, hxt, .x _ _ (.tu _ _ .nil)⟩
        have hlen : ((List.replicate (n + 1) Z.cells.toList).flatten).length = (n + 1) * z.cells.length := by
          rw [List.length_flatten, List.map_replicate, List.sum_replicate_nat, h3.length]
        have hst := run_storeCells_cells (P := P) L.blk (L.base + o) (List.replicate (n + 1) Z.cells.toList).flatten 0 w (by rw [hlen]; simpa using hc) (by rw [hlen]; simpa using hf)
          (fun v hv => by
            obtain ⟨l, h4, h5⟩ := List.mem_flatten.1 hv
            rw [(List.mem_replicate.1 h4).2] at h5
            exact h3.one (hfl (by omega)) v h5)
        rw [← zeroCells_reps] at hst
        simp only [Nat.add_zero] at hst
        rw [← zeroCells_reps]
        simp [Builtin.clear_, run_underlying hu, Result.andThen, h1, hst]
  · trivial

/-! ### copy -/
theorem copyK_sound {es b : Nat} (K : S → R) : ∀ (l : List (List V)) (us : List Value) (o : Nat) (s : S) (w : World), Rel sy N0 φ s w → Rows es l → VRs sy φ l.flatten us →
    copyK es b K l o s = R.bad ∨ ∃ s' L, copyK es b K l o s = K s' ∧ (0 < l.length → φ b = some L) ∧ Ext sy N0 φ s w φ s' (w.setCells L.blk (L.base + o) us) ∧
      (∀ j, j < l.length * es → (w.cell? ⟨L.blk, L.base + o + j, none⟩).isSome = true) ∧ (∀ j, j < l.length * es → w.frozen? ⟨L.blk, L.base + o + j, none⟩ = false)
  | [], us, o, s, w, hr, _, hu => by
    cases hu
    exact .inr ⟨s, ⟨0, 0, 0⟩, rfl, (fun h => absurd h (by simp)), Ext.refl hr, (fun j hj => absurd hj (by simp)), fun j hj => absurd hj (by simp)⟩
  | z :: l, us, o, s, w, hr, hl, hu => by
    have hes : z.length = es := (hl z (by simp)).1
    obtain ⟨Z, us', rfl, hz, hu'⟩ : ∃ Z us', us = Z ++ us' ∧ VRs sy φ z Z ∧ VRs sy φ l.flatten us' := by
      refine ⟨us.take z.length, us.drop z.length, (List.take_append_drop _ _).symm, ?_, ?_⟩
      · have := hu.take z.length
        rwa [List.flatten_cons, List.take_left] at this
      · have := hu.drop z.length
        rwa [List.flatten_cons, List.drop_left] at this
    have e : copyK es b K (z :: l) o s = storeN s b o z R.bad fun s => copyK es b K l (Nat.add o es) s := by
      show storeN s b o z R.bad (fun s => forceN (Nat.add o es) fun o => copyK es b K l o s) = _
      simp only [forceN_eq]
    rw [e]
    rcases storeN_sound hr b o z R.bad (fun s => copyK es b K l (Nat.add o es) s) with e1 | ⟨s1, e1, e2, e3, elv, e4, L, hL, hN, hc, hf, hrel⟩
    · exact .inl e1
    rw [e1]
    have hr1 := hrel Z hz
    have hx1 : Ext sy N0 φ s w φ s1 (w.setCells L.blk (L.base + o) Z) := ⟨fun _ _ h => h, fun _ _ => rfl, by rw [e2]; exact Nat.le_refl _, e3, fun c _ => elv c, below_setCells _ _ _ hN, hr1⟩
    have hZ : Z.length = es := by rw [← hz.length, hes]
    rcases copyK_sound K l us' (Nat.add o es) s1 _ hr1 (fun x hx => hl x (by simp [hx])) hu' with h2 | ⟨s2, L2, h2, hL2, hx2, hc2, hf2⟩
    · exact .inl h2
    refine .inr ⟨s2, L, h2, fun _ => hL, ?_, fun j hj => ?_, fun j hj => ?_⟩
    · cases l with
      | nil =>
        cases hu'
        have hx2 : Ext sy N0 φ s1 (w.setCells L.blk (L.base + o) Z) φ s2 (w.setCells L.blk (L.base + o) Z) := hx2
        have := hx1.trans hx2
        simpa using this
      | cons y l =>
        have hLL : L = L2 := Option.some.inj (hL.symm.trans (hL2 (by simp)))
        subst hLL
        have := hx1.trans hx2
        rw [setCells_append, hZ, Nat.add_assoc]
        exact this
    · by_cases hj' : j < es
      · exact hc j (by rw [hes]; exact hj')
      · cases l with
        | nil => simp at hj; exact absurd hj hj'
        | cons y l =>
          have hLL : L = L2 := Option.some.inj (hL.symm.trans (hL2 (by simp)))
          subst hLL
          have := hc2 (j - es) (by rw [List.length_cons, Nat.succ_mul] at hj; omega)
          have ho : L.base + Nat.add o es + (j - es) = L.base + o + j := by show L.base + (o + es) + (j - es) = _; omega
          rw [ho, World.cell?_setCells_out _ _ _ _ _ (fun _ _ => by simp only; omega)] at this
          exact this
    · by_cases hj' : j < es
      · exact hf j (by rw [hes]; exact hj')
      · cases l with
        | nil => simp at hj; exact absurd hj hj'
        | cons y l =>
          have hLL : L = L2 := Option.some.inj (hL.symm.trans (hL2 (by simp)))
          subst hLL
          have := hf2 (j - es) (by rw [List.length_cons, Nat.succ_mul] at hj; omega)
          have ho : L.base + Nat.add o es + (j - es) = L.base + o + j := by show L.base + (o + es) + (j - es) = _; omega
          rw [ho, World.frozen?_setCells] at this
          exact this

theorem copyR_sound (hr : Rel sy N0 φ s w) {t u el ty : TypeId} (hu : P.underlying t = some (.slice el)) {es : Nat} (hes : szOf P el = some es) {x : V} {X Y : Value} (hx : VR sy φ x X) {l : List (List V)} (hl : Rows es l)
    {us : List Value} (hus : VRs sy φ l.flatten us) (hs : Src P es u Y l.length us w) : VSpec sy N0 P φ s w (Builtin.copy_ #[t, u] ty #[X, Y]) (copyR es x l s) := by
  unfold copyR
  split
  · cases hx with
    | x _ _ hx =>
    cases hx
    have hf : (Builtin.firstCells es 0 Y).run P w = .ok #[] w := by
      have := hs.cells
      cases Y with
      | slice a n c =>
        cases a with
        | none => exact run_firstCells_none w es 0 n c
        | some a => exact run_firstCells_some w es 0 a n c [] (by simp) (fun j v h => by simp at h)
      | string b => simp [Builtin.firstCells]
      | _ => simp [Builtin.firstCells, stuck] at this
    refine .same hr (V := .int .i64 0) ?_ (.i 0 0)
    have hz : min l.length 0 = 0 := Nat.min_zero _
    simp [Builtin.copy_, run_underlying hu, Result.andThen, hs.len, run_szOf hes, hf, goInt]
  · rename_i b o len cap es' ex
    rw [forceN_eq]
    refine VSpec.ifB fun hle => ?_
    rw [lenL_eq, bleN] at hle
    have hle : l.length ≤ len := of_decide_eq_true hle
    cases hx with
    | sl _ _ _ _ _ _ L x0 cp hL hxa hroom hlc hcap =>
    rw [lenL_eq]
    rcases copyK_sound (es := es) (b := b) (fun s => .val (.i (nat_lit 0) (.ofNat l.length)) s) l us o s w hr hl hus with e | ⟨s', L', e, hL', hxt, hc, hf⟩
    · rw [e]; trivial
    · rw [e]
      have hmin : Nat.min l.length len = l.length := Nat.min_eq_left hle
      refine ⟨w.setCells L'.blk (L'.base + o) us, .int .i64 l.length, φ, ?_, hxt, .i 0 _⟩
      by_cases h0 : l.length = 0
      · have hn : us = [] := by
          have := hs.newsLen
          rw [h0, Nat.zero_mul] at this
          exact List.length_eq_zero_iff.1 this
        subst hn
        have hcl := hs.cells
        rw [h0] at hcl
        simp [Builtin.copy_, run_underlying hu, Result.andThen, hs.len, run_szOf hes, h0, hcl, goInt, storeCells, World.setCells]
      · have hLL : L = L' := Option.some.inj (hL.symm.trans (hL' (by omega)))
        subst hLL
        have hx0 : x0 = L.base + o := hxa.resolve_left (by omega)
        subst hx0
        have hst := run_storeCells_cells (P := P) L.blk (L.base + o) us 0 w (by rw [hs.newsLen]; simpa using hc) (by rw [hs.newsLen]; simpa using hf) hs.one
        simp only [Nat.add_zero] at hst
        have hcl := hs.cells
        simp [Builtin.copy_, run_underlying hu, Result.andThen, hs.len, run_szOf hes, hmin, hcl, goInt, hst]
  · trivial
end
end Ev

namespace Ev
open Go Go.RowKit

section
variable {sy : Sy} {N0 : Nat → Prop} {P : Program} {φ : Phi} {s : S} {w : World}

theorem VSpec.goInt (hr : Rel sy N0 φ s w) {x : Sem Value} {n : Nat} (h : x.run P w = .ok (Go.goInt n) w) : VSpec sy N0 P φ s w x (.val (.i (nat_lit 0) (.ofNat n)) s) := .same hr h (.i 0 _)

theorem EntR.size {l : List (V × V × Nat)} {es : Array MapEntry} (h : EntR sy φ l es.toList) : l.length = es.size := by rw [h.len]; simp

theorem unks_rows : ∀ (l : List UInt8), Rows 1 (unks l.length) ∧ (unks l.length).length = l.length ∧ VRs sy φ (unks l.length).flatten (l.map fun b => Value.int .u8 (b.toNat : Int))
  | [] => ⟨fun x hx => (by cases hx), rfl, .nil⟩
  | b :: l => by
    obtain ⟨h1, h2, h3⟩ := unks_rows l
    have e : unks (b :: l).length = [.x (.y .ub)] :: unks l.length := rfl
    rw [e]
    refine ⟨fun x hx => ?_, by rw [List.length_cons, h2]; rfl, .cons _ _ _ _ (.x _ _ (.y _ _ (.ub b))) h3⟩
    cases hx with
    | head => exact ⟨rfl, fun v hv => by cases hv with
      | head => rfl
      | tail _ h => cases h⟩
    | tail _ h => exact h1 x h

theorem clen_sound {K n : Nat} {e : E} {a : Act} (hr : Rel sy N0 φ s w) (he : EnvR sy φ K n e a) (t ty : TypeId) (x : Operand) :
    RSpec sy N0 P φ s w ((do pure (.value (← Builtin.len_ #[t] ty #[a.eval x])) : Sem Next).run P w) ((clen P K t x).f e s) := by
  unfold clen
  split
  · rename_i hu
    refine RSpec.op1 (F := fun X => Builtin.len_ #[t] ty #[X]) hr he x fun v V hv => ?_
    unfold lenStr
    split
    · obtain ⟨b, rfl, rfl, rfl⟩ := hv.str_inv
      refine VSpec.goInt hr ?_
      rw [str_size]
      simp [Builtin.len_, run_underlying hu, Result.andThen]
    · cases hv with
      | x _ _ hv =>
      cases hv with
      | y _ _ hv =>
      cases hv with
      | tx b n hn =>
      refine VSpec.goInt hr ?_
      rw [← hn, str_size]
      simp [Builtin.len_, run_underlying hu, Result.andThen]
    · rename_i j lo hi ne
      cases hv with
      | x _ _ hv =>
      cases hv with
      | y _ _ hv =>
      cases hv with
      | us _ _ _ _ hb hn =>
      rw [forceN_eq]
      refine .same hr (V := .int .i64 (sy.n (lnc j))) ?_ (.x _ _ (.y _ _ (.si (lnc j) lo hi (by rw [sy.ln]; omega))))
      rw [sy.ln]
      simp [Builtin.len_, run_underlying hu, Result.andThen, goInt]
    · trivial
  · rename_i el hu
    refine RSpec.op1 (F := fun X => Builtin.len_ #[t] ty #[X]) hr he x fun v V hv => ?_
    unfold lenSl
    split
    · cases hv
      refine VSpec.goInt hr ?_
      simp [Builtin.len_, run_underlying hu, Result.andThen]
    · cases hv with
      | x _ _ hv =>
      cases hv
      refine VSpec.goInt hr ?_
      simp [Builtin.len_, run_underlying hu, Result.andThen]
    · rename_i j lo hi
      cases hv with
      | x _ _ hv =>
      cases hv with
      | y _ _ hv =>
      cases hv with
      | ul _ _ _ a c hb =>
      cases hlh : Nat.beq lo hi with
      | true =>
        obtain rfl := Nat.eq_of_beq_eq_true hlh
        obtain rfl : lo = (sy.t j).size := by omega
        show VSpec sy N0 P φ s w _ (R.val _ s)
        refine VSpec.goInt hr ?_
        simp [Builtin.len_, run_underlying hu, Result.andThen]
      | false =>
      rw [ifB_false, forceN_eq]
      refine .same hr (V := .int .i64 (sy.n (lnc j))) ?_ (.x _ _ (.y _ _ (.si (lnc j) lo hi (by rw [sy.ln]; omega))))
      rw [sy.ln]
      simp [Builtin.len_, run_underlying hu, Result.andThen, goInt]
    · trivial
  · rename_i k el hu
    refine RSpec.op1 (F := fun X => Builtin.len_ #[t] ty #[X]) hr he x fun v V hv => ?_
    unfold lenMp
    split
    · rename_i b
      split
      · rename_i l c hb
        cases hv with
        | x _ _ hv =>
        cases hv with
        | m _ L hL =>
        obtain ⟨L', es, hL', hw, hE, _⟩ := hr.map _ _ _ hb
        obtain rfl : L = L' := by rw [hL] at hL'; exact Option.some.inj hL'
        rw [forceN_eq, lenL_eq]
        refine VSpec.goInt hr ?_
        rw [hE.size]
        simp [Builtin.len_, run_underlying hu, Result.andThen, MapKept.run_getObj_map hw]
      · trivial
    · cases hv with
      | x _ _ hv =>
      cases hv with
      | y _ _ hv =>
      cases hv
      refine VSpec.goInt hr ?_
      simp [Builtin.len_, run_underlying hu, Result.andThen]
    · trivial
  · rename_i m el hu
    refine RSpec.op1 (F := fun X => Builtin.len_ #[t] ty #[X]) hr he x fun v V hv => ?_
    refine VSpec.goInt hr ?_
    simp [Builtin.len_, run_underlying hu, Result.andThen]
  · trivial

theorem ccap_sound {K n : Nat} {e : E} {a : Act} (hr : Rel sy N0 φ s w) (he : EnvR sy φ K n e a) (t ty el : TypeId) (hu : P.underlying t = some (.slice el)) (x : Operand) :
    RSpec sy N0 P φ s w ((do pure (.value (← Builtin.cap_ #[t] ty #[a.eval x])) : Sem Next).run P w) (rUn capR (copv K x) e s) := by
  refine RSpec.op1 (F := fun X => Builtin.cap_ #[t] ty #[X]) hr he x fun v V hv => ?_
  unfold capR
  split
  · cases hv with
    | sl _ _ _ _ _ _ L x0 cp hL hxa hroom hlc hcap =>
    refine VSpec.ifB fun h => ?_
    subst h
    simp only [if_true] at hcap
    subst hcap
    refine VSpec.goInt hr ?_
    simp [Builtin.cap_, run_underlying hu, Result.andThen]
  · cases hv with
    | x _ _ hv =>
    cases hv
    refine VSpec.goInt hr ?_
    simp [Builtin.cap_, run_underlying hu, Result.andThen]
  · trivial

theorem onlyV_spec {x : Sem Value} {r : R} (h : ∀ v s', r = .val v s' → ∃ w' V ψ, x.run P w = .ok V w' ∧ Ext sy N0 φ s w ψ s' w' ∧ VR sy ψ v V) : VSpec sy N0 P φ s w x (onlyV r) := by
  cases r with
  | val v s' => exact h v s' rfl
  | _ => trivial

theorem cappend_sound {K n : Nat} {e : E} {a : Act} (hr : Rel sy N0 φ s w) (he : EnvR sy φ K n e a) (t u ty : TypeId) (x y : Operand) :
    RSpec sy N0 P φ s w ((do pure (.value (← Builtin.append_ #[t, u] ty #[a.eval x, a.eval y])) : Sem Next).run P w) ((cappend P K t u x y).f e s) := by
  unfold cappend
  split
  · rename_i el hu
    split
    · rename_i i hi
      split
      · trivial
      · rename_i m hsz
        split
        · rename_i z hby hz
          split
          · rename_i hzl hfl
            obtain ⟨Z, _, _, hzc, i', hi', hZ⟩ := zeroOf_cells (sy := sy) (φ := φ) hz
            obtain rfl : i = i' := by rw [hi] at hi'; exact Option.some.inj hi'
            have hby : i.bytes < 100000 := by rw [bltN] at hby; exact of_decide_eq_true hby
            have hzl : z.cells.length = m + 1 := Nat.eq_of_beq_eq_true hzl
            have Te : ElT P t el i Z (m + 1) := ⟨hu, hi, hZ, hsz, Nat.succ_pos _, by rw [← Array.length_toList, ← hzc.length, hzl], hby⟩
            split
            · rename_i el' hu'
              refine RSpec.op2 (F := fun X Y => Builtin.append_ #[t, u] ty #[X, Y]) hr he x y fun v V v' V' hv hv' => ?_
              refine VSpec.bind fun l hl => onlyV_spec fun r s' hrs => ?_
              obtain ⟨h1, us, h2, h3⟩ := elemsOf_sound hr (Nat.succ_pos _) hv' hl hu'
              exact append_sound hr Te rfl hv h1 h2 h3 hrs
            · rename_i hu'
              cases m with
              | succ m => trivial
              | zero =>
                refine RSpec.op2 (F := fun X Y => Builtin.append_ #[t, u] ty #[X, Y]) hr he x y fun v V v' V' hv hv' => ?_
                unfold appendStr
                split
                · obtain ⟨b, rfl, rfl, rfl⟩ := hv'.str_inv
                  refine VSpec.ifB fun _ => onlyV_spec fun r s' hrs => ?_
                  obtain ⟨r1, r2, r3⟩ := bytes_rows b.data.toList
                  have hs := Src.ofString w hu' b
                  rw [← str_size b, ← r2] at hs
                  exact append_sound hr Te rfl hv r1 (by rw [r3]; exact bytes_VRs _) hs hrs
                · cases hv' with
                  | x _ _ hv' =>
                  cases hv' with
                  | y _ _ hv' =>
                  cases hv' with
                  | tx b n hn =>
                  refine VSpec.ifB fun _ => onlyV_spec fun r s' hrs => ?_
                  obtain ⟨r1, r2, r3⟩ := unks_rows (sy := sy) (φ := φ) b.data.toList
                  rw [hn] at r1 r2 r3
                  have hs := Src.ofString w hu' b
                  rw [← str_size b, hn, ← r2] at hs
                  exact append_sound hr Te rfl hv r1 r3 hs hrs
                · trivial
            · trivial
          · trivial
        · trivial
    · trivial
  · trivial

theorem minmax {ty : TypeId} {ts : Array TypeId} {F : Array TypeId → TypeId → Array Value → Sem Value} {f : Nat → Int → Int → S → R} (hi : ∀ k m n, VSpec sy N0 P φ s w (F ts ty #[.int (kd k) m, .int (kd k) n]) (f k m n s))
    {K n : Nat} {e : E} {a : Act} (hr : Rel sy N0 φ s w) (he : EnvR sy φ K n e a) (x y : Operand) :
    RSpec sy N0 P φ s w ((do pure (.value (← F ts ty #[a.eval x, a.eval y])) : Sem Next).run P w) (rBin (arith f sBad fBad badVV) (copv K x) (copv K y) e s) :=
  RSpec.op2 (F := fun X Y => F ts ty #[X, Y]) hr he x y fun _v _V _v' _V' hv hv' => arith_sound (F := fun X Y => F ts ty #[X, Y]) (fi := f) (fs := sBad) (ff := fBad) (fb := badVV) hi (fun _ _ => trivial) (fun _ _ => trivial) hv hv' trivial

theorem ccopy_sound {K n : Nat} {e : E} {a : Act} (hr : Rel sy N0 φ s w) (he : EnvR sy φ K n e a) (t u ty : TypeId) (x y : Operand) :
    RSpec sy N0 P φ s w ((do pure (.value (← Builtin.copy_ #[t, u] ty #[a.eval x, a.eval y])) : Sem Next).run P w) ((ccopy P K t u x y).f e s) := by
  unfold ccopy
  split
  · rename_i el hu
    split
    · rename_i m hsz
      split
      · rename_i el' hu'
        refine RSpec.op2 (F := fun X Y => Builtin.copy_ #[t, u] ty #[X, Y]) hr he x y fun v V v' V' hv hv' => ?_
        refine VSpec.bind fun l hl => ?_
        obtain ⟨h1, us, h2, h3⟩ := elemsOf_sound hr (Nat.succ_pos _) hv' hl hu'
        exact copyR_sound hr hu hsz hv h1 h2 h3
      · rename_i hu'
        cases m with
        | succ m => trivial
        | zero =>
          refine RSpec.op2 (F := fun X Y => Builtin.copy_ #[t, u] ty #[X, Y]) hr he x y fun v V v' V' hv hv' => ?_
          unfold copyStr
          split
          · obtain ⟨b, rfl, rfl, rfl⟩ := hv'.str_inv
            refine VSpec.ifB fun _ => ?_
            obtain ⟨r1, r2, r3⟩ := bytes_rows b.data.toList
            have hs := Src.ofString w hu' b
            rw [← str_size b, ← r2] at hs
            exact copyR_sound hr hu hsz hv r1 (by rw [r3]; exact bytes_VRs _) hs
          · trivial
      · trivial
    · trivial
  · trivial

theorem cbuiltin_sound {K n : Nat} {e : E} {a : Act} (hr : Rel sy N0 φ s w) (he : EnvR sy φ K n e a) (b : Builtin) (ty : TypeId) (cs : Array Bool) (xs : List Operand) (ts : List TypeId) :
    RSpec sy N0 P φ s w ((builtin b ⟨ts⟩ ty cs ⟨xs.map a.eval⟩).run P w) ((cbuiltin P K b xs ts).f e s) := by
  unfold cbuiltin
  split
  · split
    · exact clen_sound hr he _ ty _
    · trivial
  · split
    · split
      · rename_i hu; exact ccap_sound hr he _ ty _ hu _
      · trivial
    · trivial
  · split
    · exact cappend_sound hr he _ _ ty _ _
    · trivial
  · split
    · split
      · rename_i hu
        split
        · rename_i q hq
          exact RSpec.op2 (F := fun X Y => Builtin.delete_ #[_, _] ty #[X, Y]) hr he _ _ fun v V v' V' hv hv' => delR_sound hr hu hq hv hv'
        · trivial
      · trivial
    · trivial
  · split
    · refine minmax (F := Builtin.min_) (fun k m n => ?_) hr he _ _
      unfold minR
      refine .same hr (V := .int (kd k) (if n < m then n else m)) ?_ ?_
      · simp [Builtin.min_, Builtin.min2]
      · rw [ltI_eq, ifB_dec]; exact .i _ _
    · trivial
  · split
    · refine minmax (F := Builtin.max_) (fun k m n => ?_) hr he _ _
      unfold maxR
      refine .same hr (V := .int (kd k) (if m < n then n else m)) ?_ ?_
      · simp [Builtin.max_, Builtin.max2]
      · rw [ltI_eq, ifB_dec]; exact .i _ _
    · trivial
  · split
    · exact Sem.run_pure ..
    · trivial
  · split
    · split
      · rename_i hu
        split
        · rename_i z hz
          exact RSpec.op1 (F := fun X => Builtin.clear_ #[_] ty #[X]) hr he _ fun v V hv => clearR_sound hr hu hz hv
        · trivial
      · trivial
    · trivial
  · split
    · exact ccopy_sound hr he _ _ ty _ _
    · trivial
  · split
    · exact RSpec.op1 (F := fun X => Builtin.unsafeSliceData_ ⟨ts⟩ ty #[X]) hr he _ fun v V hv => uData_sound hr hv
    · trivial
  · split
    · split
      · rename_i hp
        split
        · rename_i hz
          exact RSpec.op2 (F := fun X Y => Builtin.unsafeString_ ⟨_ :: _⟩ ty #[X, Y]) hr he _ _ fun v V v' V' hv hv' => uStr_sound hr hp hz hv hv'
        · trivial
      · trivial
    · trivial
  · trivial
end
end Ev

namespace Ev
open Go Go.RowKit

section
variable {sy : Sy} {N0 : Nat → Prop} {P : Program} {φ : Phi} {s : S} {w : World}

theorem optO_spec (hr : Rel sy N0 φ s w) {K n : Nat} {e : E} {a : Act} (he : EnvR sy φ K n e a) {run : Result Next} (x : Option Operand) {k : Option V → R} (h : ∀ o, OpR' sy φ o (x.map a.eval) → RSpec sy N0 P φ s w run (k o)) :
    RSpec sy N0 P φ s w run (optO (x.map (copv K)) e k) := by
  cases x with
  | none => exact h none .none
  | some x => exact RSpec.bind fun v hv => h (some v) (.some v _ (copv_sound hr he x hv))

theorem rSlice_spec (hr : Rel sy N0 φ s w) {K n : Nat} {e : E} {a : Act} (he : EnvR sy φ K n e a) {F : Value → Option Value → Option Value → Option Value → Sem Value} {f : V → Option V → Option V → Option V → S → R} (x : Operand) (lo hi mx : Option Operand)
    (h : ∀ v V l L h H m M, VR sy φ v V → OpR' sy φ l L → OpR' sy φ h H → OpR' sy φ m M → (mx = none → M = none) → VSpec sy N0 P φ s w (F V L H M) (f v l h m s)) :
    RSpec sy N0 P φ s w ((do pure (.value (← F (a.eval x) (lo.map a.eval) (hi.map a.eval) (mx.map a.eval))) : Sem Next).run P w) (rSlice f (copv K x) (lo.map (copv K)) (hi.map (copv K)) (mx.map (copv K)) e s) :=
  RSpec.bind fun v hv => optO_spec hr he lo fun l hl => optO_spec hr he hi fun h' hh => optO_spec hr he mx fun m hm =>
    (h v _ l _ h' _ m _ (copv_sound hr he x hv) hl hh hm (fun e => by rw [e]; rfl)).r

theorem cslice_sound {K n : Nat} {e : E} {a : Act} (hr : Rel sy N0 φ s w) (he : EnvR sy φ K n e a) (t : TypeId) (x : Operand) (lo hi mx : Option Operand) :
    RSpec sy N0 P φ s w ((do pure (.value (← Instr.sliceAt t (a.eval x) (lo.map a.eval) (hi.map a.eval) (mx.map a.eval))) : Sem Next).run P w) ((cslice P K t x lo hi mx).f e s) := by
  unfold cslice
  split
  · rename_i hu
    split
    · exact rSlice_spec hr he x lo hi none fun v V l L h H m M hv hl hh hm hM => by
        rw [hM rfl]; exact slStr_sound hr hu hv hl hh
    · trivial
  · rename_i el hu
    split
    · rename_i k hk
      exact rSlice_spec hr he x lo hi mx fun v V l L h H m M hv hl hh hm hM => slSl_sound hr hu hk hv hl hh hm
    · trivial
  · rename_i m el hu
    split
    · rename_i k hk
      exact rSlice_spec hr he x lo hi none fun v V l L h H m M hv hl hh hm hM => by
        rw [hM rfl]; exact slArr_sound hr hu hk hv hl hh
    · trivial
  · trivial

theorem rTri_spec (hr : Rel sy N0 φ s w) {K n : Nat} {e : E} {a : Act} (he : EnvR sy φ K n e a) {F : Value → Value → Value → Sem Unit} {f : V → V → V → S → R} (x y z : Operand)
    (h : ∀ v V v' V' v'' V'', VR sy φ v V → VR sy φ v' V' → VR sy φ v'' V'' → USpec sy N0 P φ s w (F V V' V'') (f v v' v'' s)) :
    RSpec sy N0 P φ s w ((do F (a.eval x) (a.eval y) (a.eval z); pure .skip : Sem Next).run P w) (rTri f (copv K x) (copv K y) (copv K z) e s) :=
  RSpec.bind fun v hv => RSpec.bind fun v' hv' => RSpec.bind fun v'' hv'' => (h v _ v' _ v'' _ (copv_sound hr he x hv) (copv_sound hr he y hv') (copv_sound hr he z hv'')).r

theorem cmapUpdate_sound {K n : Nat} {e : E} {a : Act} (hr : Rel sy N0 φ s w) (he : EnvR sy φ K n e a) (t : TypeId) (m k x : Operand) :
    RSpec sy N0 P φ s w ((do Instr.mapUpdate t (a.eval m) (a.eval k) (a.eval x); pure .skip : Sem Next).run P w) ((cmapUpdate P K t m k x).f e s) := by
  unfold cmapUpdate
  split
  · rename_i hu
    split
    · rename_i q hq
      exact rTri_spec hr he (F := Instr.mapUpdate t) m k x fun v V v' V' v'' V'' hv hv' hv'' => mapPut_sound hr hu hq hv hv' hv''
    · trivial
  · trivial

theorem ofValue_fn (g : Nat) (F C A : Array Value) : (Deferred.ofValue (.func (.func g) F C) A).run P w = .ok { target := .fn (.func g) C, args := F ++ A } w := rfl

theorem enter_spec {run : Result Next} {g : Nat} {vs : List V} {args : Array Value} (hv : VRs sy φ vs args.toList) (hrun : ∀ fn c, P.funcs[g]? = some fn → fn.body = some c → (fn.name == "runtime.NumGoroutine") = false → run = .ok (.enter g args) w) :
    RSpec sy N0 P φ s w run (.call g vs) := fun fn c h1 h2 h3 => ⟨args, hrun fn c h1 h2 h3, hv⟩

theorem callFunc_enter {g : Nat} {args : Array Value} {fn : Func} {c : Code} (h1 : P.funcs[g]? = some fn) (h2 : fn.body = some c) (h3 : (fn.name == "runtime.NumGoroutine") = false) : (callFunc g args).run P w = .ok (.enter g args) w := by
  have h3' : ¬ (fn.name = "runtime.NumGoroutine") := by simpa using h3
  simp [callFunc, h1, h2, h3', Result.andThen]

theorem xBits_sound {vs : List V} {args : List Value} (hr : Rel sy N0 φ s w) (hv : VRs sy φ vs args) : RSpec sy N0 P φ s w (((Extern.MathFloatBits.float64bits ⟨args⟩).run P w).andThen fun v w' => .ok (.value v) w') (xBits vs s) := by
  unfold xBits
  split
  · cases hv with
    | cons _ _ _ _ h1 hs =>
      cases hs
      cases h1 with
      | x _ _ h1 =>
      cases h1 with
      | y _ _ h1 =>
      cases h1
      exact ⟨w, _, φ, .inl rfl, Ext.refl hr, .i 2 _⟩
  · rename_i t q
    cases hv with
    | cons _ _ _ _ h1 hs =>
      cases hs
      cases h1 with
      | x _ _ h1 =>
      cases h1 with
      | y _ _ h1 =>
      cases h1 with
      | fe _ _ hq => exact ⟨w, _, φ, .inl rfl, Ext.refl hr, .x _ _ (.y _ _ (.e 2 (.o 370 t t) q hq))⟩
  · cases hv with
    | cons _ _ _ _ h1 hs =>
      cases hs
      cases h1 with
      | x _ _ h1 =>
      cases h1 with
      | y _ _ h1 =>
      cases h1 with
      | nf _ n hq hn => exact ⟨w, _, φ, .inl rfl, Ext.refl hr, .x _ _ (.y _ _ (.nb 0 _ n hq hn))⟩
  · trivial
theorem unB_den (t : Tm) : (den sy (unB t)).toNat = (den sy t).toNat := by
  unfold unB
  split
  · rename_i c a b
    cases h : Nat.beq c (nat_lit 370) with
    | false => rfl
    | true =>
      obtain rfl : c = 370 := Nat.eq_of_beq_eq_true h
      show _ = (((den sy a).toNat : Int)).toNat
      rw [Int.toNat_natCast]; rfl
  · rfl
theorem xFrom_sound {vs : List V} {args : List Value} (hr : Rel sy N0 φ s w) (hv : VRs sy φ vs args) : RSpec sy N0 P φ s w (((Extern.MathFloatBits.float64frombits ⟨args⟩).run P w).andThen fun v w' => .ok (.value v) w') (xFrom vs s) := by
  unfold xFrom
  split
  · rename_i k n
    rw [beqN]
    by_cases hk : k = 2
    · subst hk
      cases hv with
      | cons _ _ _ _ h1 hs =>
        cases hs
        cases h1
        exact ⟨w, _, φ, .inl rfl, Ext.refl hr, .x _ _ (.y _ _ (.f _ _))⟩
    · rw [decide_eq_false hk]; trivial
  · rename_i j
    cases hk : Nat.beq (jKind j) (nat_lit 2) with
    | false => trivial
    | true =>
    cases hv with
    | cons _ _ _ _ h1 hs =>
      cases hs
      cases h1 with
      | x _ _ h1 =>
      cases h1 with
      | y _ _ h1 =>
      cases h1
      obtain ⟨z, hz⟩ := sy.u2 j (Nat.eq_of_beq_eq_true hk)
      rw [hz]
      exact ⟨w, _, φ, .inl rfl, Ext.refl hr, .x _ _ (.y _ _ (.uf _))⟩
  · rename_i k t q
    cases hk : Nat.beq k (nat_lit 2) with
    | false => trivial
    | true =>
    obtain rfl : k = 2 := Nat.eq_of_beq_eq_true hk
    cases hv with
    | cons _ _ _ _ h1 hs =>
      cases hs
      cases h1 with
      | x _ _ h1 =>
      cases h1 with
      | y _ _ h1 =>
      cases h1 with
      | e _ _ _ hq =>
      have hv := YR.fe (sy := sy) (φ := φ) (unB t) q hq
      rw [unB_den] at hv
      exact ⟨w, _, φ, .inl rfl, Ext.refl hr, .x _ _ (.y _ _ hv)⟩
  · rename_i p q
    cases hk : Nat.beq p (nat_lit 0) with
    | false => trivial
    | true =>
    obtain rfl : p = 0 := Nat.eq_of_beq_eq_true hk
    cases hv with
    | cons _ _ _ _ h1 hs =>
      cases hs
      cases h1 with
      | x _ _ h1 =>
      cases h1 with
      | y _ _ h1 =>
      cases h1 with
      | nb _ _ n hq hn =>
      have hv := YR.nf (sy := sy) (φ := φ) q n hq hn
      exact ⟨w, _, φ, .inl rfl, Ext.refl hr, .x _ _ (.y _ _ hv)⟩
  · trivial
theorem xTrunc_sound {vs : List V} {args : List Value} (hr : Rel sy N0 φ s w) (hv : VRs sy φ vs args) : RSpec sy N0 P φ s w (((Extern.MathFloor.toIntegral "math.archTrunc" .zero ⟨args⟩).run P w).andThen fun v w' => .ok (.value v) w') (xTrunc vs s) := by
  unfold xTrunc
  split
  · rename_i b
    cases hv with
    | cons _ _ _ _ h1 hs =>
      cases hs
      cases h1 with
      | x _ _ h1 =>
      cases h1 with
      | y _ _ h1 =>
      cases h1
      have run : ∀ d, FloatKind.f64.decode b = d → (∀ s t, d ≠ .nan s t) → Extern.MathFloor.toIntegral "math.archTrunc" .zero ⟨[.float .f64 b]⟩ = (pure (.float .f64 (FloatKind.f64.encode (d.integral .zero))) : Sem Value) := by
        intro d hd hn
        change (match FloatKind.f64.decode b with
          | .nan s t => if FloatKind.f64.format.quiet t = t then pure (.float .f64 b) else do
            let kept ← choose (.extern "math.Floor,Ceil,Trunc,RoundToEven.signallingNaN kept" 2)
            pure (.float .f64 (if kept == 1 then b else FloatKind.f64.encode (.nan s (FloatKind.f64.format.quiet t))))
          | d => pure (.float .f64 (FloatKind.f64.encode (d.integral .zero))) : Sem Value) = _
        rw [hd]
        cases d with
        | nan s t => exact absurd rfl (hn s t)
        | _ => rfl
      split
      · rename_i sg t hd
        cases hq : Nat.beq (FloatKind.f64.format.quiet t) t with
        | false => trivial
        | true =>
        have hq : FloatKind.f64.format.quiet t = t := Nat.eq_of_beq_eq_true hq
        have e : Extern.MathFloor.toIntegral "math.archTrunc" .zero ⟨[.float .f64 b]⟩ = (pure (.float .f64 b) : Sem Value) := by
          change (match FloatKind.f64.decode b with
            | .nan s t => if FloatKind.f64.format.quiet t = t then pure (.float .f64 b) else do
              let kept ← choose (.extern "math.Floor,Ceil,Trunc,RoundToEven.signallingNaN kept" 2)
              pure (.float .f64 (if kept == 1 then b else FloatKind.f64.encode (.nan s (FloatKind.f64.format.quiet t))))
            | d => pure (.float .f64 (FloatKind.f64.encode (d.integral .zero))) : Sem Value) = _
          rw [hd]
          exact if_pos hq
        rw [e, ifB_true]
        exact ⟨w, _, φ, .inl rfl, Ext.refl hr, .x _ _ (.y _ _ (.f _ _))⟩
      · rename_i hd
        rw [forceN_eq, run _ rfl hd]
        exact ⟨w, _, φ, .inl rfl, Ext.refl hr, .x _ _ (.y _ _ (.f _ _))⟩
  · cases hv with
    | cons _ _ _ _ h1 hs =>
      cases hs
      cases h1 with
      | x _ _ h1 =>
      cases h1 with
      | y _ _ h1 =>
      cases h1 with
      | fe t q hq => exact (trunc_sound hr hq).r'
  · cases hv with
    | cons _ _ _ _ h1 hs =>
      cases hs
      cases h1 with
      | x _ _ h1 =>
      cases h1 with
      | y _ _ h1 =>
      cases h1 with
      | nf _ n hq hn =>
      obtain ⟨r, w', g1, g2, _, g4⟩ := trunc_run (P := P) (w := w) n
      refine ⟨w', _, φ, .inl (by rw [g1]; rfl), ?_, .x _ _ (.y _ _ (.nf _ r hq (g4 hn)))⟩
      rcases g2 with rfl | rfl
      · exact Ext.refl hr
      · exact Ext.drew hr
  · trivial
theorem range_find (f : Nat → Bool) (N : Nat) : ∀ n, n ≤ N → (List.range' (N - n) n).find? f = Nat.rec (motive := fun _ => Option Nat) none (fun k ih => ifB (f (N - (k + 1))) (some (N - (k + 1))) ih) n
  | 0, _ => rfl
  | n + 1, h => by
    have ih := range_find f N n (by omega)
    rw [List.range'_succ, List.find?_cons, show N - (n + 1) + 1 = N - n by omega, ih]
    show _ = ifB (f (N - (n + 1))) _ _
    cases f (N - (n + 1)) <;> rfl
theorem byteIx_eq (b : ByteArray) (x : Nat) : byteIx b.data.toList.length (enc b.data.toList) x b.data.toList.length = (List.range b.size).find? fun i => b[i]!.toNat == x := by
  rw [List.range_eq_range']
  have h := range_find (fun i => b[i]!.toNat == x) b.size b.size (Nat.le_refl _)
  rw [Nat.sub_self] at h
  rw [h, str_size]
  unfold byteIx
  have key : ∀ n, n ≤ b.size → (Nat.rec (motive := fun _ => Option Nat) none (fun k ih => ifB (Nat.beq (byteAt b.size (enc b.data.toList) (Nat.sub b.size (Nat.succ k))) x) (some (Nat.sub b.size (Nat.succ k))) ih) n : Option Nat) =
      Nat.rec (motive := fun _ => Option Nat) none (fun k ih => ifB (b[b.size - (k + 1)]!.toNat == x) (some (b.size - (k + 1))) ih) n := by
    intro n
    induction n with
    | zero => intro _; rfl
    | succ n ih =>
      intro hn
      show ifB (Nat.beq (byteAt b.size (enc b.data.toList) (b.size - (n + 1))) x) (some (b.size - (n + 1))) _ = ifB (b[b.size - (n + 1)]!.toNat == x) (some (b.size - (n + 1))) _
      rw [ih (by omega)]
      congr 1
      have hlt : b.size - (n + 1) < b.data.toList.length := by rw [str_size]; omega
      have := byteAt_eq b.data.toList (b.size - (n + 1)) hlt
      rw [str_size] at this
      rw [this, beqN]
      have hb : b[b.size - (n + 1)]! = b.data.toList[b.size - (n + 1)] := by
        rw [getElem!_pos b _ (by omega)]; rfl
      rw [hb, Bool.eq_iff_iff]; simp
  exact key b.size (Nat.le_refl _)

theorem xIndexB_sound {vs : List V} {args : List Value} (hr : Rel sy N0 φ s w) (hv : VRs sy φ vs args) : RSpec sy N0 P φ s w (((Extern.BytealgIndexByte.indexByte ⟨args⟩).run P w).andThen fun v w' => .ok (.value v) w') (xIndexB vs s) := by
  unfold xIndexB
  split
  · rename_i l c k x
    cases hv with
    | cons _ _ _ _ h1 hs =>
      cases hs with
      | cons _ _ _ _ h2 hs =>
      cases hs
      cases h1 with
      | s b _ _ h3 h4 =>
      subst h3 h4
      cases h2
      refine RSpec.ifB fun hk => RSpec.ifB fun hx => ?_
      obtain rfl : k = 1 := Nat.eq_of_beq_eq_true hk
      rw [bltN] at hx
      have hx : x < 256 := of_decide_eq_true hx
      rw [byteIx_eq]
      have hc : ∀ i : Nat, (b[i]! == x.toUInt8) = (b[i]!.toNat == x) := by
        intro i
        rw [Bool.eq_iff_iff, beq_iff_eq, beq_iff_eq, ← UInt8.toNat_inj]
        have : x.toUInt8.toNat = x := by simp; omega
        rw [this]
      have e : (Extern.BytealgIndexByte.indexByte ⟨[.string b, .int (kd 1) (Int.ofNat x)]⟩) = (match (List.range b.size).find? fun i => b[i]! == x.toUInt8 with
        | some i => pure (goInt i)
        | none => pure (goInt (-1)) : Sem Value) := rfl
      rw [e]
      simp only [hc]
      cases (List.range b.size).find? fun i => b[i]!.toNat == x with
      | none => exact ⟨w, _, φ, .inl rfl, Ext.refl hr, .i 0 (-1)⟩
      | some i =>
        change RSpec _ _ _ _ _ _ _ (forceN i fun i => R.val (V.i 0 (Int.ofNat i)) s)
        rw [forceN_eq]
        exact ⟨w, _, φ, .inl rfl, Ext.refl hr, .i 0 _⟩
  · trivial
theorem xSame_sound {vs : List V} {args : List Value} (hr : Rel sy N0 φ s w) (hv : VRs sy φ vs args) : RSpec sy N0 P φ s w (((Extern.AbiNoEscape.same ⟨args⟩).run P w).andThen fun v w' => .ok (.value v) w') (xSame vs s) := by
  unfold xSame
  split
  · cases hv with
    | cons _ _ _ _ h1 hs =>
      cases hs
      exact ⟨w, _, φ, .inl rfl, Ext.refl hr, h1⟩
  · trivial

theorem look_next (fn : Func) (n : String) (h1 : fn.name = n) (h2 : fn.origin = "") (ha : Extern.allNextRows.lookup n = none) (hb : Extern.allNextRows.lookup "" = none) : Extern.findNext fn = none := by
  unfold Extern.findNext
  simp only [h1, h2, ha, hb]
  rfl
theorem look_find (fn : Func) (n : String) (e : Array Value → Sem Value) (h1 : fn.name = n) (ha : Extern.allGenericRows.lookup n = none) (hb : Extern.allTypedRows.lookup n = none) (hc : Extern.allRows.lookup n = some e) : Extern.find fn = some e := by
  unfold Extern.find
  simp only [h1, ha, hb, hc]
  rfl

theorem extF_sound {g : Nat} {f : List V → S → R} {vs : List V} {args : List Value} (hf : extF P g = some f) (hr : Rel sy N0 φ s w) (hv : VRs sy φ vs args) : RSpec sy N0 P φ s w ((callFunc g ⟨args⟩).run P w) (f vs s) := by
  unfold extF at hf
  split at hf
  · rename_i fn hfn
    split at hf
    · rename_i hb
      split at hf
      · rename_i ho
        have hnone : Extern.allNextRows.lookup "" = none := by kernel_rfl
        unfold extN at hf
        split at hf
        · rename_i hn
          obtain rfl := Option.some.inj hf
          rw [run_callFunc_extern hfn (by rw [hn]; kernel_rfl) (by rw [hb]; rfl) (look_next fn _ hn ho (by kernel_rfl) hnone) (look_find fn _ Extern.MathFloatBits.float64bits hn (by kernel_rfl) (by kernel_rfl) (by kernel_rfl))]
          exact xBits_sound hr hv
        split at hf
        · rename_i hn
          obtain rfl := Option.some.inj hf
          rw [run_callFunc_extern hfn (by rw [hn]; kernel_rfl) (by rw [hb]; rfl) (look_next fn _ hn ho (by kernel_rfl) hnone) (look_find fn _ Extern.MathFloatBits.float64frombits hn (by kernel_rfl) (by kernel_rfl) (by kernel_rfl))]
          exact xFrom_sound hr hv
        split at hf
        · rename_i hn
          obtain rfl := Option.some.inj hf
          rw [run_callFunc_extern hfn (by rw [hn]; kernel_rfl) (by rw [hb]; rfl) (look_next fn _ hn ho (by kernel_rfl) hnone) (look_find fn _ (Extern.MathFloor.toIntegral "math.archTrunc" .zero) hn (by kernel_rfl) (by kernel_rfl) (by kernel_rfl))]
          exact xTrunc_sound hr hv
        split at hf
        · rename_i hn
          obtain rfl := Option.some.inj hf
          rw [run_callFunc_extern hfn (by rw [hn]; kernel_rfl) (by rw [hb]; rfl) (look_next fn _ hn ho (by kernel_rfl) hnone) (look_find fn _ Extern.AbiNoEscape.same hn (by kernel_rfl) (by kernel_rfl) (by kernel_rfl))]
          exact xSame_sound hr hv
        split at hf
        · rename_i hn
          obtain rfl := Option.some.inj hf
          rw [run_callFunc_extern hfn (by rw [hn]; kernel_rfl) (by rw [hb]; rfl) (look_next fn _ hn ho (by kernel_rfl) hnone) (look_find fn _ Extern.BytealgIndexByte.indexByte hn (by kernel_rfl) (by kernel_rfl) (by kernel_rfl))]
          exact xIndexB_sound hr hv
        · cases hf
      · cases hf
    · cases hf
  · cases hf

theorem copr_sound {K n : Nat} {e : E} {a : Act} (hr : Rel sy N0 φ s w) (he : EnvR sy φ K n e a) (o : Oper) : RSpec sy N0 P φ s w ((execOp a.eval o).run P w) ((copr P K o.op).f e s) := by
  obtain ⟨dst, op, ty, pos, after, guard⟩ := o
  have move : ∀ x : Operand, RSpec sy N0 P φ s w ((pure (.value (a.eval x)) : Sem Next).run P w) (rMove (copv K x) e s) := fun x =>
    RSpec.bind fun v hv => ⟨w, a.eval x, φ, .inl (Sem.run_pure ..), Ext.refl hr, copv_sound hr he x hv⟩
  cases op with
  | move x => exact move x
  | assign x => exact move x
  | pick c x y =>
    refine RSpec.bind fun v hv => ?_
    have hc := copv_sound hr he c hv
    show RSpec sy N0 P φ s w ((do pure (.value (if ← asBool (a.eval c) then a.eval x else a.eval y)) : Sem Next).run P w) _
    cases v with
    | b t =>
      have : a.eval c = .bool t := by
        generalize a.eval c = Z at hc
        cases hc; rfl
      rw [this]
      cases t with
      | true => exact move x
      | false => exact move y
    | _ => trivial
  | alloc t => exact rAlloc_sound (_K := K) hr
  | box t x => exact RSpec.op1 hr he x fun v V hv => boxR_sound hr hv
  | build t ps => exact cbuild_sound hr he t ps
  | buildSlice t len ps => exact cbuildSlice_sound hr he t len ps
  | insert t m k x => exact cmapUpdate_sound hr he t m k x
  | load t x =>
    show RSpec _ _ _ _ _ _ _ ((cload P K t x).f e s)
    unfold cload
    split
    · rename_i ha
      split
      · rename_i k hk; exact RSpec.op1 hr he x fun v V hv => loadNR_sound hr ha hk hv
      · trivial
    · rename_i ha; exact RSpec.op1 hr he x fun v V hv => load1R_sound hr ha hv
    · trivial
  | store t x y =>
    show RSpec _ _ _ _ _ _ _ ((match szOf P t with | some n => ⟨rBin (storeR n) (copv K x) (copv K y)⟩ | none => ⟨rBad⟩ : OpR).f e s)
    split
    · rename_i k hk; exact RSpec.op2u hr he x y fun v V u U hv hu => storeR_sound hr hk hv hu
    · trivial
  | nilCheck x =>
    refine RSpec.bind fun v hv => ?_
    have hx := copv_sound hr he x hv
    show RSpec _ _ _ _ _ _ _ (nilChk v s)
    have key : ∀ X, a.eval x = X → (∀ fn F C, X = .func fn F C → ∃ g, fn = .func g) → (X ≠ .pointer none) → X ≠ .nilIface → X ≠ .nilFunc → (execOp a.eval ⟨dst, .nilCheck x, ty, pos, after, guard⟩).run P w = .ok (.value X) w := by
      intro X e h1 h2 h3 h4
      show ((match a.eval x with
        | .pointer none | .nilIface | .nilFunc => runtimePanic .nilDeref
        | .func (.method name) first captured =>
          match (first[0]? : Option Value) with
          | some .nilIface => runtimePanic .nilDeref
          | some (.iface t w) => do
            if (← nilAhead ((← program).types.size + Made.depth) t w name) != some false then
              unsupported (.noEntry "op/nilCheck.the method's receiver behind this interface value is a nil pointer, or cannot be seen to be none, and the arguments act or may panic (ledger 612)")
            pure (.value (.func (.method name) first captured))
          | _ => pure (.value (.func (.method name) first captured))
        | x => pure (.value x) : Sem Next).run P w) = _
      rw [e]
      cases X with
      | pointer p => cases p with
        | none => exact absurd rfl h2
        | some p => exact Sem.run_pure ..
      | nilIface => exact absurd rfl h3
      | nilFunc => exact absurd rfl h4
      | func fn F C =>
        obtain ⟨g, rfl⟩ := h1 fn F C rfl
        exact Sem.run_pure ..
      | _ => exact Sem.run_pure ..
    generalize hX : a.eval x = X at hx
    unfold nilChk
    split
    · cases hx with
      | p _ _ L hL => exact ⟨w, _, φ, .inl (key _ hX (fun _ _ _ h => by cases h) (by simp) (by simp) (by simp)), Ext.refl hr, .p _ _ L hL⟩
    · cases hx with
      | x _ _ hx =>
      cases hx with
      | y _ _ hx =>
      cases hx with
      | fn _ _ _ F C hF hC => exact ⟨w, _, φ, .inl (key _ hX (fun _ _ _ h => by cases h; exact ⟨_, rfl⟩) (by simp) (by simp) (by simp)), Ext.refl hr, .x _ _ (.y _ _ (.fn _ _ _ F C hF hC))⟩
    · cases hx with
      | x _ _ hx =>
      cases hx with
      | ic _ _ U hU => exact ⟨w, _, φ, .inl (key _ hX (fun _ _ _ h => by cases h) (by simp) (by simp) (by simp)), Ext.refl hr, .x _ _ (.ic _ _ U hU)⟩
    · trivial
  | binOp op t x y yt => exact RSpec.op2 (F := fun X Y => opF op t x y X Y) hr he x y fun v V u U hv hu => cbin_sound hr op t x y hv hu
  | unOp op t x => cases op with
    | not =>
      refine RSpec.op1 (F := Op.unary .not) hr he x fun v V hv => ?_
      unfold notR
      split
      · cases hv
        rw [notB_eq]
        exact VSpec.bool hr (Sem.run_pure ..)
      · trivial
    | neg =>
      refine RSpec.op1 (F := Op.unary .neg) hr he x fun v V hv => ?_
      unfold negR
      split
      · cases hv
        rw [subI_eq]
        exact VSpec.int hr (by simp [Op.unary, Op.intArith])
      · cases hv with
        | x _ _ hv =>
          cases hv with
          | y _ _ hv =>
            cases hv
            rw [forceN_eq]
            exact .same hr (V := .float .f64 _) (Sem.run_pure ..) (.x _ _ (.y _ _ (.f _ _)))
      · rename_i k t q
        cases hv with
        | x _ _ hv =>
        cases hv with
        | y _ _ hv =>
        cases hv with
        | e _ _ _ hq =>
        refine VSpec.e hr hq fun hk => ?_
        unfold opDen; rw [(code_div hk).1, (code_div hk).2]
        simp [Op.unary, Op.intArith, den_c]
      · trivial
    | xor =>
      refine RSpec.op1 (F := Op.unary .xor) hr he x fun v V hv => ?_
      unfold xorR
      split
      · cases hv
        exact VSpec.int hr (by simp [Op.unary, Op.intBits])
      · rename_i k t q
        cases hv with
        | x _ _ hv =>
        cases hv with
        | y _ _ hv =>
        cases hv with
        | e _ _ _ hq =>
        refine VSpec.e hr hq fun hk => ?_
        unfold opDen; rw [(code_div hk).1, (code_div hk).2]
        simp [Op.unary, Op.intBits, den_c]
      · trivial
    | _ => trivial
  | convert src dst x => exact cconv_sound hr he src dst x
  | makeInterface t x =>
    show RSpec _ _ _ _ _ _ _ ((match P.underlying t with
      | some (.interface _) => ⟨rBad⟩
      | some _ => ⟨rUn (fun v s => .val (.x (.ic t v)) s) (copv K x)⟩
      | none => ⟨rBad⟩ : OpR).f e s)
    split
    · trivial
    · rename_i d hni hu
      refine RSpec.op1 (F := Instr.makeInterface t) hr he x fun v V hv => .same hr (V := .iface t V) ?_ (.x _ _ (.ic t v V hv))
      cases d <;> first | exact (hni _ rfl).elim | simp [Instr.makeInterface, run_underlying hu, Result.andThen]
    · trivial
  | makeFunc f first cap => cases f with
    | func f =>
      refine RSpec.bind fun vs hvs => RSpec.bind fun us hus => ?_
      have h1 := copvs_sound hr he first.toList hvs
      have h2 := copvs_sound hr he cap.toList hus
      refine ⟨w, .func (.func f) ⟨first.toList.map a.eval⟩ ⟨cap.toList.map a.eval⟩, φ, .inl ?_, Ext.refl hr, .x _ _ (.y _ _ (.fn f vs us _ _ h1 h2))⟩
      have e1 : first.map a.eval = ⟨first.toList.map a.eval⟩ := by apply Array.ext'; simp
      have e2 : cap.map a.eval = ⟨cap.toList.map a.eval⟩ := by apply Array.ext'; simp
      rw [← e1, ← e2]
      exact run_v (P := P) (w := w) (Sem.run_pure ..)
    | _ => trivial
  | makeMap t r => cases r with
    | none => exact (rMap_sound hr t e).r
    | some x => trivial
  | makeSlice t l c =>
    show RSpec _ _ _ _ _ _ _ ((cmakeSlice P K t l c).f e s)
    unfold cmakeSlice
    split
    · rename_i el hu
      split
      · rename_i i hi
        split
        · trivial
        · rename_i m hsz
          split
          · rename_i z hby hz
            split
            · rename_i hzl hfl
              obtain ⟨Z, _, _, hzc, i', hi', hZ⟩ := zeroOf_cells (sy := sy) (φ := φ) hz
              obtain rfl : i = i' := by rw [hi] at hi'; exact Option.some.inj hi'
              have hby : i.bytes < 100000 := by rw [bltN] at hby; exact of_decide_eq_true hby
              exact RSpec.op2 (F := Instr.makeSlice t) hr he l c fun v V u U hv hu' => makeSl_sound hr hu hi hZ hsz (Nat.succ_pos _) hby hzc (Nat.eq_of_beq_eq_true hzl) hfl hv hu'
            · trivial
          · trivial
      · trivial
    · trivial
  | slice t x lo hi mx => exact cslice_sound hr he t x lo hi mx
  | fieldAddr t x f =>
    show RSpec _ _ _ _ _ _ _ ((cfieldAddr P K t x f).f e s)
    unfold cfieldAddr
    split
    · rename_i hu
      split
      · rename_i g hg
        split
        · rename_i m hm; exact RSpec.op1 (F := fun X => Instr.fieldAt t X f) hr he x fun v V hv => fieldA_sound hr hu hg hm hv
        · trivial
      · trivial
    · trivial
  | field t x f =>
    show RSpec _ _ _ _ _ _ _ ((cfield P K t x f).f e s)
    unfold cfield
    split
    · rename_i hu
      split
      · rename_i g hg
        split
        · rename_i ha
          split
          · rename_i m hm; exact RSpec.op1 (F := fun X => Instr.field t X f) hr he x fun v V hv => field_sound hr hu hg hv (.inr ⟨ha, m, hm, rfl⟩)
          · trivial
        · rename_i ha; exact RSpec.op1 (F := fun X => Instr.field t X f) hr he x fun v V hv => field_sound hr hu hg hv (.inl ⟨ha, rfl⟩)
        · trivial
      · trivial
    · trivial
  | indexAddr t x ix =>
    show RSpec _ _ _ _ _ _ _ ((cindexAddr P K t x ix).f e s)
    unfold cindexAddr
    split
    · rename_i hu
      split
      · rename_i m hm; exact RSpec.op2 (F := Instr.indexAt t) hr he x ix fun v V u U hv hu' => idxS_sound hr hu hm hv hu'
      · trivial
    · rename_i hu
      split
      · rename_i m hm; exact RSpec.op2 (F := Instr.indexAt t) hr he x ix fun v V u U hv hu' => idxA_sound hr hu hm hv hu'
      · trivial
    · trivial
  | index t x ix =>
    show RSpec _ _ _ _ _ _ _ ((cindex P K t x ix).f e s)
    unfold cindex
    split
    · rename_i hu; exact RSpec.op2 (F := Instr.index t) hr he x ix fun v V u U hv hu' => idxStr_sound hr hu hv hu'
    · rename_i hu
      split
      · rename_i m hm; exact RSpec.op2 (F := Instr.index t) hr he x ix fun v V u U hv hu' => idxAg_sound hr hu hm hv hu'
      · trivial
    · trivial
  | lookup t x k ok =>
    show RSpec _ _ _ _ _ _ _ ((clookup P K t x k ok).f e s)
    unfold clookup
    split
    · rename_i hu
      split
      · rename_i q z hq hz; exact RSpec.op2 (F := fun X Y => Instr.lookup t X Y ok) hr he x k fun v V u U hv hk => lookR_sound hr hu hq hz ok hv hk
      · trivial
    · trivial
  | mapUpdate t m k x => exact cmapUpdate_sound hr he t m k x
  | mapEntry t m k =>
    show RSpec _ _ _ _ _ _ _ ((cmapEntry P K t m k).f e s)
    unfold cmapEntry
    split
    · rename_i hu
      split
      · rename_i q z hq hz; exact RSpec.op2 (F := Instr.mapEntry t) hr he m k fun v V u U hv hk => mapEnt_sound hr hu hq hz hv hk
      · trivial
    · trivial
  | entryStore t m st x => exact rTri_spec hr he (F := Instr.entryStore t) m st x fun v V v' V' v'' V'' hv hv' hv'' => entSt_sound hr hv hv' hv''
  | typeAssert x xt t ok => exact cassert_sound hr he x xt t ok
  | extract x i => exact RSpec.op1 (F := fun X => Instr.extract X i) hr he x fun v V hv => extractR_sound hr i hv
  | call c =>
    obtain ⟨callee, args, ats⟩ := c
    have eargs : args.map a.eval = ⟨args.toList.map a.eval⟩ := by apply Array.ext'; simp
    cases callee with
    | value f =>
      have main : ∀ (g : Nat) (F C : List Value) (first cap vs : List V), a.eval f = .func (.func g) ⟨F⟩ ⟨C⟩ → VRs sy φ first F → VRs sy φ cap C → (copvs K args.toList).f e = some vs →
          RSpec sy N0 P φ s w ((execOp a.eval ⟨dst, .call ⟨.value f, args, ats⟩, ty, pos, after, guard⟩).run P w) (.call g (first ++ (vs ++ cap))) := by
        intro g F C first cap vs hf hF hC hvs
        have hA := copvs_sound hr he args.toList hvs
        refine enter_spec (args := ⟨F ++ (args.toList.map a.eval ++ C)⟩) (hF.append (hA.append hC)) fun fn c h1 h2 h3 => ?_
        show (do let d ← Deferred.ofValue (a.eval f) (args.map a.eval); invoke d.target d.args : Sem Next).run P w = _
        rw [hf, eargs]
        simp only [Sem.run_bind, ofValue_fn, Result.andThen_ok]
        show (callFunc g _).run P w = _
        rw [callFunc_enter h1 h2 h3]
        simp
      have val : RSpec sy N0 P φ s w ((execOp a.eval ⟨dst, .call ⟨.value f, args, ats⟩, ty, pos, after, guard⟩).run P w) (rCallV (copv K f) (copvs K args.toList) e s) := by
        refine RSpec.bind fun v hv => RSpec.bind fun vs hvs => ?_
        have hf := copv_sound hr he f hv
        show RSpec _ _ _ _ _ _ _ (callR v vs)
        unfold callR
        split
        · generalize hX : a.eval f = X at hf
          cases hf with
          | x _ _ hf =>
          cases hf with
          | y _ _ hf =>
          cases hf with
          | fn g first cap F C hF hC =>
          rw [app_eq, app_eq]
          exact main _ F C _ _ vs hX hF hC hvs
        · trivial
      cases f with
      | func g =>
        change RSpec _ _ _ _ _ _ _ (Cl.f (match extF P g with | some f => (⟨rExt f (copvs K args.toList)⟩ : OpR) | none => ⟨rCallG g (copvs K args.toList)⟩) e s)
        cases hx : extF P g with
        | none =>
          refine RSpec.bind fun vs hvs => ?_
          have := main g [] [] [] [] vs rfl .nil .nil hvs
          simpa using this
        | some f =>
          refine RSpec.bind fun vs hvs => ?_
          have hA := copvs_sound hr he args.toList hvs
          have := extF_sound (P := P) hx hr hA
          show RSpec _ _ _ _ _ _ ((do let d ← Deferred.ofValue (.func (.func g) #[] #[]) (args.map a.eval); invoke d.target d.args : Sem Next).run P w) _
          rw [eargs]
          simp only [Sem.run_bind, ofValue_fn, Result.andThen_ok]
          show RSpec _ _ _ _ _ _ ((callFunc g _).run P w) _
          simpa using this
      | tmp t => exact val
      | const v => exact val
      | global g => exact val
    | builtin b =>
      have := cbuiltin_sound (P := P) hr he b ty (args.map fun | .const _ => true | _ => false) args.toList ats.toList
      rw [← eargs] at this
      exact this
    | invoke r m => trivial
  | defer c =>
    obtain ⟨callee, args, ats⟩ := c
    have eargs : args.map a.eval = ⟨args.toList.map a.eval⟩ := by apply Array.ext'; simp
    cases callee with
    | value f =>
      refine RSpec.bind fun v hv => RSpec.bind fun vs hvs => ?_
      have hf := copv_sound hr he f hv
      have hA := copvs_sound hr he args.toList hvs
      show RSpec _ _ _ _ _ _ _ (deferR v vs)
      unfold deferR
      split
      · generalize hX : a.eval f = X at hf
        cases hf with
        | x _ _ hf =>
        cases hf with
        | y _ _ hf =>
        cases hf with
        | fn g first cap F C hF hC =>
        refine ⟨{ target := .fn (.func _) ⟨C⟩, args := ⟨F ++ args.toList.map a.eval⟩ }, ?_, _, _, _, F, C, _, rfl, rfl, hF, hC, hA⟩
        show (do pure (.defer (← Deferred.ofValue (a.eval f) (args.map a.eval))) : Sem Next).run P w = _
        rw [hX, eargs]
        simp [ofValue_fn, Result.andThen]
      · trivial
    | _ => trivial
  | panic x =>
    refine RSpec.bind fun v hv => ?_
    have hx := copv_sound hr he x hv
    show RSpec _ _ _ _ _ _ _ (panR v s)
    unfold panR
    split
    · generalize hX : a.eval x = X at hx
      cases hx with
      | x _ _ hx =>
      cases hx with
      | ic _ _ U hU =>
      refine ⟨.iface _ U, ?_, .x _ _ (.ic _ _ U hU)⟩
      show (do pure (.value (← Instr.panic (a.eval x))) : Sem Next).run P w = _
      rw [hX]
      simp [Instr.panic, Result.andThen]
    · trivial
  | _ => trivial
end
end Ev

namespace Ev
open Go Go.RowKit

section
variable (sy : Sy) (N0 : Nat → Prop) (P : Program)

/-- How code ends, for any condition. -/
def OcSpec (φ : Phi) (s : S) (w : World) (K n : Nat) (Q : Exit → Act → World → Prop) : Oc → Prop
  | .norm e' s' => ∀ a' w' ψ, Ext sy N0 φ s w ψ s' w' → EnvR sy ψ K n e' a' → Q .normal a' w'
  | .exit id e' s' => ∀ a' w' ψ, Ext sy N0 φ s w ψ s' w' → EnvR sy ψ K n e' a' → Q (.exit id) a' w'
  | .ret e' s' => ∀ a' w' ψ, Ext sy N0 φ s w ψ s' w' → EnvR sy ψ K n e' a' → Q .ret a' w'
  | .x (.pan v e' s') => ∀ a' w' ψ V, Ext sy N0 φ s w ψ s' w' → EnvR sy ψ K n e' a' → VR sy ψ v V → Q (.panic [{ v := V, recovered := false }]) a' w'
  | .x .bad => False

/-- How a call ends. -/
def OvSpec (φ : Phi) (s : S) (w : World) (R : Ending → World → Prop) : Ov → Prop
  | .val v s' => ∀ V w' ψ, Ext sy N0 φ s w ψ s' w' → VR sy ψ v V → R (.returned V) w'
  | .pan v s' => ∀ V w' ψ, Ext sy N0 φ s w ψ s' w' → VR sy ψ v V → R (.panicked [{ v := V, recovered := false }]) w'
  | .bad => False

/-- What a frame whose deferred calls are made is about. -/
def MdR (φ : Phi) : Md → FrameMode → Prop
  | .ret, u => u = .returning
  | .pan v, u => ∃ V, u = .panicking [{ v := V, recovered := false }] ∧ VR sy φ v V
  | .done v, u => ∃ V, u = .panicking [{ v := V, recovered := true }] ∧ VR sy φ v V

def OwSpec (φ : Phi) (s : S) (w : World) (R : Ending → FrameMode → World → Prop) : Ow → Prop
  | .val s' u' => ∀ V w' ψ U', Ext sy N0 φ s w ψ s' w' → MdR sy ψ u' U' → R (.returned V) U' w'
  | .bad => False

def OdSpec (φ : Phi) (s : S) (w : World) (K n : Nat) (c₀ : Frame) (cs : List Frame) (Q : Exit → Act → List Frame → World → Prop) : Od → Prop
  | .norm e' s' u' => ∀ a' w' ψ U', Ext sy N0 φ s w ψ s' w' → EnvR sy ψ K n e' a' → MdR sy ψ u' U' → Q .normal a' ({ c₀ with mode := U' } :: cs) w'
  | .ret e' s' u' => ∀ a' w' ψ U', Ext sy N0 φ s w ψ s' w' → EnvR sy ψ K n e' a' → MdR sy ψ u' U' → Q .ret a' ({ c₀ with mode := U' } :: cs) w'
  | .bad => False

/-- A function that can be entered. -/
def FnOk (g : Nat) : Prop := ∃ fn c, P.funcs[g]? = some fn ∧ fn.body = some c ∧ (fn.name == "runtime.NumGoroutine") = false

/-- What the rounds are to be. -/
structure ISpec (ih : I) : Prop where
  code : ∀ K n c e s φ w a Q, Rel sy N0 φ s w → EnvR sy φ K n e a → OcSpec sy N0 φ s w K n Q (ih.code K n c e s) → c.wp P Q a w
  ops : ∀ K n (all : Array Oper) i e s φ w a Q, Rel sy N0 φ s w → EnvR sy φ K n e a → OcSpec sy N0 φ s w K n Q (ih.ops (cops P K n all.toList (all.toList.drop i)) e s) →
    wpOps P all Q (List.range' i (all.size - i)) a w
  call : ∀ g vs s φ w args R, Rel sy N0 φ s w → VRs sy φ vs args.toList → OvSpec sy N0 φ s w R (ih.call g vs s) → Calls P g args w R
  fn : ∀ g vs s, ih.call g vs s ≠ .bad → FnOk P g
  dfn : ∀ g vs s u, ih.dcall g vs s u ≠ .bad → FnOk P g
  leave : ∀ ds (fn : Func) K n e s u φ w a ds' U R, Rel sy N0 φ s w → EnvR sy φ K n e a → DsR sy φ ds ds' → MdR sy φ u U → (∀ v, u ≠ .done v) → OvSpec sy N0 φ s w R (ih.leave ds fn.results.toList K e s u) → Leaves P fn a.tmps R ds' U w
  dcode : ∀ K n c e s u φ w a U c₀ cs Q, Rel sy N0 φ s w → EnvR sy φ K n e a → MdR sy φ u U → OdSpec sy N0 φ s w K n c₀ cs Q (ih.dcode K n c e s u) → c.wpS P Q a ({ c₀ with mode := U } :: cs) w
  dops : ∀ K n (all : Array Oper) i e s u φ w a U c₀ cs Q, Rel sy N0 φ s w → EnvR sy φ K n e a → MdR sy φ u U → OdSpec sy N0 φ s w K n c₀ cs Q (ih.dops (cops P K n all.toList (all.toList.drop i)) e s u) →
    wpOpsS P all Q (List.range' i (all.size - i)) a ({ c₀ with mode := U } :: cs) w
  dcall : ∀ g vs s u φ w args U R, Rel sy N0 φ s w → VRs sy φ vs args.toList → MdR sy φ u U → OwSpec sy N0 φ s w R (ih.dcall g vs s u) → CallsD P g args U w R
end

section
variable {sy : Sy} {N0 : Nat → Prop} {P : Program} {φ : Phi} {s : S} {w : World} {K n : Nat}

/-! The memory has gone on before. -/
theorem OcSpec.after {ψ : Phi} {s' : S} {w' : World} {Q : Exit → Act → World → Prop} (hx : Ext sy N0 φ s w ψ s' w') {o : Oc} (h : OcSpec sy N0 φ s w K n Q o) : OcSpec sy N0 ψ s' w' K n Q o := by
  cases o with
  | norm e s'' => exact fun a' w'' χ he => h a' w'' χ (hx.trans he)
  | exit id e s'' => exact fun a' w'' χ he => h a' w'' χ (hx.trans he)
  | ret e s'' => exact fun a' w'' χ he => h a' w'' χ (hx.trans he)
  | x y => cases y with
    | pan v e s'' => exact fun a' w'' χ V he => h a' w'' χ V (hx.trans he)
    | bad => exact h
theorem OvSpec.after {ψ : Phi} {s' : S} {w' : World} {R : Ending → World → Prop} (hx : Ext sy N0 φ s w ψ s' w') {o : Ov} (h : OvSpec sy N0 φ s w R o) : OvSpec sy N0 ψ s' w' R o := by
  cases o with
  | val v s'' => exact fun V w'' χ he => h V w'' χ (hx.trans he)
  | pan v s'' => exact fun V w'' χ he => h V w'' χ (hx.trans he)
  | bad => exact h
theorem OwSpec.after {ψ : Phi} {s' : S} {w' : World} {R : Ending → FrameMode → World → Prop} (hx : Ext sy N0 φ s w ψ s' w') {o : Ow} (h : OwSpec sy N0 φ s w R o) : OwSpec sy N0 ψ s' w' R o := by
  cases o with
  | val s'' u => exact fun V w'' χ U he => h V w'' χ U (hx.trans he)
  | bad => exact h
theorem OdSpec.after {ψ : Phi} {s' : S} {w' : World} {c₀ : Frame} {cs : List Frame} {Q : Exit → Act → List Frame → World → Prop} (hx : Ext sy N0 φ s w ψ s' w') {o : Od} (h : OdSpec sy N0 φ s w K n c₀ cs Q o) : OdSpec sy N0 ψ s' w' K n c₀ cs Q o := by
  cases o with
  | norm e s'' u => exact fun a' w'' χ U he => h a' w'' χ U (hx.trans he)
  | ret e s'' u => exact fun a' w'' χ U he => h a' w'' χ U (hx.trans he)
  | bad => exact h

theorem MdR.mono {φ ψ : Phi} (hm : ∀ b L, φ b = some L → ψ b = some L) {u : Md} {U : FrameMode} (h : MdR sy φ u U) : MdR sy ψ u U := by
  cases u with
  | ret => exact h
  | pan v => obtain ⟨V, h1, h2⟩ := h; exact ⟨V, h1, h2.mono hm⟩
  | done v => obtain ⟨V, h1, h2⟩ := h; exact ⟨V, h1, h2.mono hm⟩

/-! ### Is an operation wanted? -/
theorem copv_tmp {e : E} {a : Act} (he : EnvR sy φ K n e a) {d : Nat} {v : V} (h : (copv K (.tmp d)).f e = some v) : ∃ u, a.tmps[d]? = some u ∧ VR sy φ v u := by
  rw [copv_get] at h
  exact he.get d v h

theorem want_sound {e : E} {a : Act} (he : EnvR sy φ K n e a) {α : Type} (all : Array Oper) (o : Oper) (bad : α) (k : Bool → α) :
    want (cg K all.toList o.guard) e bad k = bad ∨ want (cg K all.toList o.guard) e bad k = k (Region.wanted o (yielded all a.tmps)) := by
  unfold Region.wanted
  cases hg : o.guard with
  | none => exact .inr rfl
  | some jw =>
    obtain ⟨j, b⟩ := jw
    have hcg : cg K all.toList (some (j, b)) = match all[j]? with
      | some o => match o.dst with
        | some d => .on (copv K (.tmp d)) b
        | none => .bad
      | none => .bad := by
      unfold cg
      simp only [Array.getElem?_toList]
      cases all[j]? with
      | none => rfl
      | some o => cases o.dst <;> rfl
    rw [hcg]
    have hyl : yielded all a.tmps j = match (all[j]?.bind (·.dst)).bind (a.tmps[·]?) with
      | some (.bool b) => some b
      | _ => none := rfl
    show _ ∨ _ = k (yielded all a.tmps j == some b)
    rw [hyl]
    cases ho : all[j]? with
    | none => exact .inl rfl
    | some o' =>
      cases hd : o'.dst with
      | none => simp only [hd]; exact .inl rfl
      | some d =>
        simp only [Option.bind_some, hd]
        show Option.rec (motive := fun _ => α) bad (fun v => wantV b bad k v) ((copv K (.tmp d)).f e) = bad ∨ Option.rec (motive := fun _ => α) bad (fun v => wantV b bad k v) ((copv K (.tmp d)).f e) = k ((match a.tmps[d]? with
          | some (.bool b) => some b
          | _ => none) == some b)
        cases hv : (copv K (.tmp d)).f e with
        | none => exact .inl rfl
        | some v =>
          obtain ⟨u, hu, hvu⟩ := copv_tmp he hv
          rw [hu]
          show wantV b bad k v = bad ∨ wantV b bad k v = _
          unfold wantV
          split
          · cases hvu
            refine .inr (congrArg k ?_)
            rename_i x
            rw [notB_eq]
            cases b <;> cases x <;> rfl
          · cases hvu with
            | x _ _ hvu =>
            cases hvu with
            | tu _ _ hvs =>
            cases hvs
            exact .inr rfl
          · exact .inl rfl

/-! ### Operations in a row -/
theorem cops_cons (all : List Oper) (o : Oper) (l : List Oper) : cops P K n all (o :: l) = copc P K n all o :: cops P K n all l := rfl

theorem opsF_sound {ih : I} (H : ISpec sy N0 P ih) (all : Array Oper) (i : Nat) (e : E) {a : Act} {Q : Exit → Act → World → Prop} (hr : Rel sy N0 φ s w) (he : EnvR sy φ K n e a)
    (h : OcSpec sy N0 φ s w K n Q (opsF ih (cops P K n all.toList (all.toList.drop i)) e s)) : wpOps P all Q (List.range' i (all.size - i)) a w := by
  by_cases hi : i < all.size
  · have hi' : i < all.toList.length := by simpa using hi
    obtain ⟨o, ho⟩ : ∃ o, o = all[i] := ⟨_, rfl⟩
    have hdrop : all.toList.drop i = o :: all.toList.drop (i + 1) := by
      rw [List.drop_eq_getElem_cons hi', ho]; simp
    have hget : all[i]? = some o := by rw [ho]; exact Array.getElem?_eq_getElem hi
    have hrange : List.range' i (all.size - i) = i :: List.range' (i + 1) (all.size - (i + 1)) := by
      rw [show all.size - i = (all.size - (i + 1)) + 1 by omega]
      exact List.range'_succ
    rw [hrange]
    rw [hdrop, cops_cons] at h
    replace h : OcSpec sy N0 φ s w K n Q (want (cg K all.toList o.guard) e .bad fun wt => oper1 ih (copc P K n all.toList o) (cops P K n all.toList (all.toList.drop (i + 1))) e s wt) := h
    rcases want_sound he all o (α := Oc) .bad (fun wt => oper1 ih (copc P K n all.toList o) (cops P K n all.toList (all.toList.drop (i + 1))) e s wt) with hb | hb
    · rw [hb] at h; exact h.elim
    rw [hb] at h
    -- a value goes where it belongs
    have valK_sound : ∀ (e : E) (a : Act) (v : V) (s' : S) (V' : Value) (w' : World) (ψ : Phi), Ext sy N0 φ s w ψ s' w' → EnvR sy ψ K n e a → VR sy ψ v V' →
        OcSpec sy N0 φ s w K n Q (valK ih (cdst K n o.dst) (cops P K n all.toList (all.toList.drop (i + 1))) e v s') → wpOps P all Q (List.range' (i + 1) (all.size - (i + 1))) (a.put o.dst V') w' := by
      intro e a v s' V' w' ψ hx he hv h
      unfold valK at h
      rcases he.put o.dst hv (α := Oc) .bad (fun e => ih.ops (cops P K n all.toList (all.toList.drop (i + 1))) e s') with hp | ⟨e', hp, he'⟩
      · rw [hp] at h; exact h.elim
      · rw [hp] at h
        exact H.ops K n all (i + 1) e' s' ψ w' _ Q hx.rel he' (h.after hx)
    simp only [wpOps, hget]
    cases hw : Region.wanted o (yielded all a.tmps) with
    | false =>
      rw [hw] at h
      simp only [Bool.false_eq_true, if_false]
      exact valK_sound e a unit s undef w φ (Ext.refl hr) he (.x _ _ (.tu [] [] .nil)) h
    | true =>
      rw [hw] at h
      simp only [if_true]
      refine .inl ?_
      replace h : OcSpec sy N0 φ s w K n Q (resK ih (cdst K n o.dst) (cops P K n all.toList (all.toList.drop (i + 1))) e s ((copr P K o.op).f e s)) := h
      have hR := copr_sound (P := P) hr he o
      unfold Oper.wp
      cases hres : (copr P K o.op).f e s with
      | val v s' =>
        rw [hres] at h hR
        obtain ⟨w', V', ψ, hy, hx, hv⟩ := hR
        have := valK_sound e a v s' V' w' ψ hx (he.mono hx.phi) hv h
        rcases hy with hy | ⟨hy, rfl⟩
        · rw [hy]; exact this
        · rw [hy]; exact this
      | pan v =>
        rw [hres] at h hR
        obtain ⟨V', hy, hv⟩ := hR
        rw [hy]
        exact h a w φ V' (Ext.refl hr) he hv
      | call g vs =>
        rw [hres] at h hR
        -- what the call leaves
        let R : Ending → World → Prop := fun
          | .returned v, w'' => wpOps P all Q (List.range' (i + 1) (all.size - (i + 1))) (a.put o.dst v) w''
          | .panicked chain, w'' => Q (.panic chain) a w''
          | .outgrown, _ => LetsOut Q
        replace h : OcSpec sy N0 φ s w K n Q (callK ih (cdst K n o.dst) (cops P K n all.toList (all.toList.drop (i + 1))) e (ih.call g vs s)) := h
        obtain ⟨fn, c, h1, h2, h3⟩ : FnOk P g := H.fn g vs s (fun e' => by rw [e'] at h; exact h.elim)
        obtain ⟨args, hrun, hargs⟩ := hR fn c h1 h2 h3
        rw [hrun]
        show Calls P g args w R
        have hcall : ∀ args : Array Value, VRs sy φ vs args.toList → Calls P g args w R := by
          intro args hargs
          refine H.call g vs s φ w args R hr hargs ?_
          cases ho : ih.call g vs s with
          | val v s' =>
            rw [ho] at h
            exact fun V' w' ψ hx hv => valK_sound e a v s' V' w' ψ hx (he.mono hx.phi) hv h
          | pan v s' =>
            rw [ho] at h
            exact fun V' w' ψ hx hv => h a w' ψ V' hx (he.mono hx.phi) hv
          | bad => rw [ho] at h; exact h.elim
        exact hcall args hargs
      | x y =>
        rw [hres] at h hR
        cases y with
        | «defer» f vs =>
          obtain ⟨d, hy, hd⟩ := hR
          rw [hy]
          have he' : EnvR sy φ K n ⟨e.vars, e.recs, (f, vs) :: e.ds⟩ { a with defers := d :: a.defers } := ⟨he.size, he.get, .cons _ _ _ _ _ hd he.ds⟩
          exact valK_sound _ _ unit s undef w φ (Ext.refl hr) he' (.x _ _ (.tu [] [] .nil)) h
        | «recover» => exact h.elim
        | bad => exact h.elim
  · have hdrop : all.toList.drop i = [] := List.drop_eq_nil_of_le (by simp; omega)
    rw [hdrop] at h
    rw [show all.size - i = 0 by omega]
    exact h a w φ (Ext.refl hr) he

theorem qPut_eq (d : Dst) (t : I → E → S → Oc) (ih : I) (e : E) (s : S) (v : V) : (qPut d t).f ih e s v = d.put e v .bad fun e => t ih e s := by
  obtain ⟨vars, recs, ds⟩ := e
  cases d with
  | var d =>
    show (sp (α := V) (R := Oc) d d).f vars v (fun vars => t ih ⟨vars, recs, ds⟩ s) = T.setK vars d v fun vars => t ih ⟨vars, recs, ds⟩ s
    rw [sp_eq _ _ _ _ _ (Nat.le_refl _), T.setK_eq]
  | _ => rfl

/-- What an operation with its rest comes to. -/
noncomputable def resQ (p : V → S → E → Oc) (ih : I) (e : E) (s : S) (r : R) : Oc := match r with
  | .val v s => p v s e
  | .call g vs => match ih.call g vs s with
    | .val v s => p v s e
    | .pan v s => .x (.pan v e s)
    | .bad => .bad
  | .pan v => .x (.pan v e s)
  | .x (.defer f vs) => p unit s ⟨e.vars, e.recs, (f, vs) :: e.ds⟩
  | .x _ => .bad

theorem qBody_eq (op : Op) (p : I → E → S → V → Oc) (ih : I) (e : E) (s : S) : (qBody P K op p).f ih e s = resQ (fun v s e => p ih e s v) ih e s ((copr P K op).f e s) := by
  have move : ∀ x : Operand, (qMove (copv K x).f p).f ih e s = resQ (fun v s e => p ih e s v) ih e s (rMove (copv K x) e s) := fun x => by
    show Option.rec (motive := fun _ => Oc) .bad (fun v => p ih e s v) ((copv K x).f e) = _
    unfold rMove
    cases (copv K x).f e with
    | none => rfl
    | some v => rfl
  have gen : (qOp (copr P K op).f p).f ih e s = resQ (fun v s e => p ih e s v) ih e s ((copr P K op).f e s) := by
    show R.rec (motive := fun _ => Oc) _ _ _ _ ((copr P K op).f e s) = _
    cases (copr P K op).f e s with
    | val v s' => rfl
    | call g vs =>
      show Ov.rec (motive := fun _ => Oc) _ _ _ (ih.call g vs s) = _
      unfold resQ
      simp only
      cases ih.call g vs s <;> rfl
    | pan v => rfl
    | x y => cases y <;> rfl
  cases op with
  | move x => exact move x
  | assign x => exact move x
  | _ => exact gen

theorem cq1_eq (all : List Oper) (o : Oper) (t : I → E → S → Oc) (ih : I) (e : E) (s : S) :
    (cq1 P K n all o t).f ih e s = want (cg K all o.guard) e .bad fun wt => ifB wt (resQ (fun v s e => (cdst K n o.dst).put e v .bad fun e => t ih e s) ih e s ((copr P K o.op).f e s)) ((cdst K n o.dst).put e unit .bad fun e => t ih e s) := by
  have hp : ∀ ih e s v, (qPut (cdst K n o.dst) t).f ih e s v = (cdst K n o.dst).put e v .bad fun e => t ih e s := fun ih e s v => qPut_eq _ t ih e s v
  have hb := qBody_eq (P := P) (K := K) o.op (qPut (cdst K n o.dst) t).f ih e s
  simp only [hp] at hb
  rw [← hb, ← hp ih e s unit]
  show (qGuard (cg K all o.guard) (qBody P K o.op (qPut (cdst K n o.dst) t).f).f (qPut (cdst K n o.dst) t).f).f ih e s = _
  cases cg K all o.guard <;> rfl

theorem cq_sound {ih : I} (H : ISpec sy N0 P ih) (all : Array Oper) : ∀ (m i : Nat), all.size - i = m → ∀ (e : E) {φ : Phi} {s : S} {w : World} {a : Act} {Q : Exit → Act → World → Prop}, Rel sy N0 φ s w → EnvR sy φ K n e a →
    OcSpec sy N0 φ s w K n Q ((cq P K n all.toList (all.toList.drop i)).f ih e s) → wpOps P all Q (List.range' i (all.size - i)) a w := by
  intro m
  induction m with
  | zero =>
    intro i hm e φ s w a Q hr he h
    have hdrop : all.toList.drop i = [] := List.drop_eq_nil_of_le (by simp; omega)
    rw [hdrop] at h
    rw [hm]
    exact h a w φ (Ext.refl hr) he
  | succ m IH =>
    intro i hm e φ s w a Q hr he h
    have hi : i < all.size := by omega
    have hi' : i < all.toList.length := by simpa using hi
    obtain ⟨o, ho⟩ : ∃ o, o = all[i] := ⟨_, rfl⟩
    have hdrop : all.toList.drop i = o :: all.toList.drop (i + 1) := by
      rw [List.drop_eq_getElem_cons hi', ho]; simp
    have hget : all[i]? = some o := by rw [ho]; exact Array.getElem?_eq_getElem hi
    have hrange : List.range' i (all.size - i) = i :: List.range' (i + 1) (all.size - (i + 1)) := by
      rw [show all.size - i = (all.size - (i + 1)) + 1 by omega]
      exact List.range'_succ
    rw [hrange]
    rw [hdrop] at h
    replace h : OcSpec sy N0 φ s w K n Q ((cq1 P K n all.toList o (cq P K n all.toList (all.toList.drop (i + 1))).f).f ih e s) := h
    rw [cq1_eq] at h
    obtain ⟨t, ht⟩ : ∃ t, t = (cq P K n all.toList (all.toList.drop (i + 1))).f := ⟨_, rfl⟩
    rw [← ht] at h
    rcases want_sound he all o (α := Oc) .bad (fun wt => ifB wt (resQ (fun v s e => (cdst K n o.dst).put e v .bad fun e => t ih e s) ih e s ((copr P K o.op).f e s)) ((cdst K n o.dst).put e unit .bad fun e => t ih e s)) with hb | hb
    · rw [hb] at h; exact h.elim
    rw [hb] at h
    -- a value goes where it belongs
    have put_sound : ∀ (e : E) (a : Act) (v : V) (s' : S) (V' : Value) (w' : World) (ψ : Phi), Ext sy N0 φ s w ψ s' w' → EnvR sy ψ K n e a → VR sy ψ v V' →
        OcSpec sy N0 φ s w K n Q ((cdst K n o.dst).put e v .bad fun e => t ih e s') → wpOps P all Q (List.range' (i + 1) (all.size - (i + 1))) (a.put o.dst V') w' := by
      intro e a v s' V' w' ψ hx he hv h
      rcases he.put o.dst hv (α := Oc) .bad (fun e => t ih e s') with hp | ⟨e', hp, he'⟩
      · rw [hp] at h; exact h.elim
      · rw [hp, ht] at h
        exact IH (i + 1) (by omega) e' hx.rel he' (h.after hx)
    simp only [wpOps, hget]
    cases hw : Region.wanted o (yielded all a.tmps) with
    | false =>
      rw [hw] at h
      simp only [Bool.false_eq_true, if_false]
      exact put_sound e a unit s undef w φ (Ext.refl hr) he (.x _ _ (.tu [] [] .nil)) h
    | true =>
      rw [hw] at h
      simp only [if_true]
      refine .inl ?_
      replace h : OcSpec sy N0 φ s w K n Q (resQ (fun v s e => (cdst K n o.dst).put e v .bad fun e => t ih e s) ih e s ((copr P K o.op).f e s)) := h
      have hR := copr_sound (P := P) hr he o
      unfold Oper.wp
      cases hres : (copr P K o.op).f e s with
      | val v s' =>
        rw [hres] at h hR
        obtain ⟨w', V', ψ, hy, hx, hv⟩ := hR
        have := put_sound e a v s' V' w' ψ hx (he.mono hx.phi) hv h
        rcases hy with hy | ⟨hy, rfl⟩
        · rw [hy]; exact this
        · rw [hy]; exact this
      | pan v =>
        rw [hres] at h hR
        obtain ⟨V', hy, hv⟩ := hR
        rw [hy]
        exact h a w φ V' (Ext.refl hr) he hv
      | call g vs =>
        rw [hres] at h hR
        let R : Ending → World → Prop := fun
          | .returned v, w'' => wpOps P all Q (List.range' (i + 1) (all.size - (i + 1))) (a.put o.dst v) w''
          | .panicked chain, w'' => Q (.panic chain) a w''
          | .outgrown, _ => LetsOut Q
        unfold resQ at h
        simp only at h
        obtain ⟨fn, c, h1, h2, h3⟩ : FnOk P g := H.fn g vs s (fun e' => by rw [e'] at h; exact h.elim)
        obtain ⟨args, hrun, hargs⟩ := hR fn c h1 h2 h3
        rw [hrun]
        show Calls P g args w R
        refine H.call g vs s φ w args R hr hargs ?_
        cases ho : ih.call g vs s with
        | val v s' =>
          rw [ho] at h
          exact fun V' w' ψ hx hv => put_sound e a v s' V' w' ψ hx (he.mono hx.phi) hv h
        | pan v s' =>
          rw [ho] at h
          exact fun V' w' ψ hx hv => h a w' ψ V' hx (he.mono hx.phi) hv
        | bad => rw [ho] at h; exact h.elim
      | x y =>
        rw [hres] at h hR
        cases y with
        | «defer» f vs =>
          obtain ⟨d, hy, hd⟩ := hR
          rw [hy]
          have he' : EnvR sy φ K n ⟨e.vars, e.recs, (f, vs) :: e.ds⟩ { a with defers := d :: a.defers } := ⟨he.size, he.get, .cons _ _ _ _ _ hd he.ds⟩
          exact put_sound _ _ unit s undef w φ (Ext.refl hr) he' (.x _ _ (.tu [] [] .nil)) h
        | «recover» => exact h.elim
        | bad => exact h.elim
end
end Ev
