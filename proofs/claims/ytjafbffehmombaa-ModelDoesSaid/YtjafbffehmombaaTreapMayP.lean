/-
  Which references are maps', as the program tells it.
-/
import Derived.Test.YtjafbffehmombaaTreapP
set_option linter.unusedVariables false
set_option linter.unusedSimpArgs false
namespace Go.Proofs.Ytjafbffehmombaa
open Go Go.XL

structure Bnd where
  low : Int
  high : Int
  hasLow : Bool
  hasHigh : Bool
  above : Int
  hasAbove : Bool
def Bnd.cells (b : Bnd) : List Value := [.int .i64 b.low, .int .i64 b.high, .bool b.hasLow, .bool b.hasHigh, .int .i64 b.above, .bool b.hasAbove]
def bnd0 : Bnd := ⟨0, 0, false, false, 0, false⟩
def Bnd.bad (b : Bnd) (n : Int) : Prop := b.hasLow = true ∧ n ≤ b.low ∨ b.hasHigh = true ∧ b.high ≤ n ∨ b.hasAbove = true ∧ beforeK b.above n = false
instance (b : Bnd) (n : Int) : Decidable (b.bad n) := inferInstanceAs (Decidable (_ ∨ _))
def Bnd.below (b : Bnd) (n : Int) : Bnd := { b with above := n, hasAbove := true }
def Bnd.lo (b : Bnd) (n : Int) : Bnd := { b with above := n, hasAbove := true, high := n, hasHigh := true }
def Bnd.hi (b : Bnd) (n : Int) : Bnd := { b with above := n, hasAbove := true, low := n, hasLow := true }
def tBare (x : Node) : Node := tNode x.gen x.n x.v x.s x.k0 x.k1
def mayF (A : Ar) : Nat → Int → Bnd → Int → Int
  | 0, _, _, _ => -1
  | k + 1, r, b, left => if r = 0 then 0 else match getA A r with
    | none => -1
    | some x => if left = 0 ∨ ¬ x.kind = 1 ∨ b.bad x.n then -1 else
      if mayF A k x.k0 (b.lo x.n) (left - 1) < 0 ∨ ¬ tBare x = x then -1 else
      if mayF A k x.k1 (b.hi x.n) (left - 1 - mayF A k x.k0 (b.lo x.n) (left - 1)) < 0 ∨ ¬ mayF A k x.k0 (b.lo x.n) (left - 1) + mayF A k x.k1 (b.hi x.n) (left - 1 - mayF A k x.k0 (b.lo x.n) (left - 1)) + 1 = x.s then -1 else
      mayF A k x.k0 (b.lo x.n) (left - 1) + mayF A k x.k1 (b.hi x.n) (left - 1 - mayF A k x.k0 (b.lo x.n) (left - 1)) + 1
section
variable {A : Ar} {k : Nat} {r left p q : Int} {b : Bnd} {x : Node}
theorem mayF_0 : mayF A (k + 1) 0 b left = 0 := by rw [mayF]; exact if_pos rfl
theorem mayF_none (hr : ¬ r = 0) (h : getA A r = none) : mayF A (k + 1) r b left = -1 := by rw [mayF, if_neg hr, h]
theorem mayF_bad (hr : ¬ r = 0) (h : getA A r = some x) (hb : left = 0 ∨ ¬ x.kind = 1 ∨ b.bad x.n) : mayF A (k + 1) r b left = -1 := by rw [mayF, if_neg hr, h]; exact if_pos hb
theorem mayF_left (hr : ¬ r = 0) (h : getA A r = some x) (hb : ¬ (left = 0 ∨ ¬ x.kind = 1 ∨ b.bad x.n)) (hp : mayF A k x.k0 (b.lo x.n) (left - 1) < 0 ∨ ¬ tBare x = x) : mayF A (k + 1) r b left = -1 := by
  rw [mayF, if_neg hr, h]; simp only []; rw [if_neg hb, if_pos hp]
theorem mayF_right (hr : ¬ r = 0) (h : getA A r = some x) (hb : ¬ (left = 0 ∨ ¬ x.kind = 1 ∨ b.bad x.n)) (ep : mayF A k x.k0 (b.lo x.n) (left - 1) = p) (hp : ¬ (p < 0 ∨ ¬ tBare x = x)) (eq : mayF A k x.k1 (b.hi x.n) (left - 1 - p) = q) (hq : q < 0 ∨ ¬ p + q + 1 = x.s) : mayF A (k + 1) r b left = -1 := by
  rw [mayF, if_neg hr, h]; simp only []; rw [if_neg hb, ep, eq, if_neg hp, if_pos hq]
theorem mayF_yes (hr : ¬ r = 0) (h : getA A r = some x) (hb : ¬ (left = 0 ∨ ¬ x.kind = 1 ∨ b.bad x.n)) (ep : mayF A k x.k0 (b.lo x.n) (left - 1) = p) (hp : ¬ (p < 0 ∨ ¬ tBare x = x)) (eq : mayF A k x.k1 (b.hi x.n) (left - 1 - p) = q) (hq : ¬ (q < 0 ∨ ¬ p + q + 1 = x.s)) : mayF A (k + 1) r b left = p + q + 1 := by
  rw [mayF, if_neg hr, h]; simp only []; rw [if_neg hb, ep, eq, if_neg hp, if_neg hq]
end
theorem mayF_le (A : Ar) : ∀ (k : Nat) (r : Int) (b : Bnd) (left : Int), 0 ≤ left → mayF A k r b left ≤ left ∧ -1 ≤ mayF A k r b left
  | 0, _, _, _, h => by rw [mayF]; omega
  | k + 1, r, b, left, h => by
    by_cases hr : r = 0
    · rw [hr, mayF_0]; omega
    cases hg : getA A r with
    | none => rw [mayF_none hr hg]; omega
    | some x =>
      by_cases hb : left = 0 ∨ ¬ x.kind = 1 ∨ b.bad x.n
      · rw [mayF_bad hr hg hb]; omega
      have hl : 0 ≤ left - 1 := by have : ¬ left = 0 := fun e => hb (.inl e); omega
      have h1 := mayF_le A k x.k0 (b.lo x.n) (left - 1) hl
      by_cases hp : mayF A k x.k0 (b.lo x.n) (left - 1) < 0 ∨ ¬ tBare x = x
      · rw [mayF_left hr hg hb hp]; omega
      have h2 := mayF_le A k x.k1 (b.hi x.n) (left - 1 - mayF A k x.k0 (b.lo x.n) (left - 1)) (by omega)
      by_cases hq : mayF A k x.k1 (b.hi x.n) (left - 1 - mayF A k x.k0 (b.lo x.n) (left - 1)) < 0 ∨ ¬ mayF A k x.k0 (b.lo x.n) (left - 1) + mayF A k x.k1 (b.hi x.n) (left - 1 - mayF A k x.k0 (b.lo x.n) (left - 1)) + 1 = x.s
      · rw [mayF_right hr hg hb rfl hp rfl hq]; omega
      · rw [mayF_yes hr hg hb rfl hp rfl hq]
        have hp0 : ¬ mayF A k x.k0 (b.lo x.n) (left - 1) < 0 := fun e => hp (.inl e)
        have hq0 : ¬ mayF A k x.k1 (b.hi x.n) (left - 1 - mayF A k x.k0 (b.lo x.n) (left - 1)) < 0 := fun e => hq (.inl e)
        omega
/-- within bounds -/
def Bnd.holds (b : Bnd) (n : Int) : Prop := (b.hasLow = true → b.low < n) ∧ (b.hasHigh = true → n < b.high) ∧ (b.hasAbove = true → beforeK b.above n = true)
theorem holds_not {b : Bnd} {n : Int} : b.holds n ↔ ¬ b.bad n := by
  unfold Bnd.holds Bnd.bad
  constructor
  · rintro ⟨h1, h2, h3⟩ (⟨e1, e2⟩ | ⟨e1, e2⟩ | ⟨e1, e2⟩)
    · have := h1 e1; omega
    · have := h2 e1; omega
    · rw [h3 e1] at e2; cases e2
  · intro h
    refine ⟨fun e => ?_, fun e => ?_, fun e => ?_⟩
    · exact Int.not_le.1 fun h2 => h (.inl ⟨e, h2⟩)
    · exact Int.not_le.1 fun h2 => h (.inr (.inl ⟨e, h2⟩))
    · cases h2 : beforeK b.above n with
      | true => rfl
      | false => exact absurd (.inr (.inr ⟨e, h2⟩)) h
theorem may_sound (A : Ar) : ∀ (k : Nat) (r : Int) (b : Bnd) (left : Int), 0 ≤ left → left < k → 0 ≤ mayF A k r b left → ∃ l, IsT A r l ∧ (l.length : Int) = mayF A k r b left ∧ ∀ y ∈ l, b.holds y.k
  | 0, _, _, _, _, h, _ => absurd h (by omega)
  | k + 1, r, b, left, h0, hk, hm => by
    by_cases hr : r = 0
    · rw [hr, mayF_0]; exact ⟨[], .nil, rfl, by simp⟩
    cases hg : getA A r with
    | none => rw [mayF_none hr hg] at hm; omega
    | some x =>
      by_cases hb : left = 0 ∨ ¬ x.kind = 1 ∨ b.bad x.n
      · rw [mayF_bad hr hg hb] at hm; omega
      have hl : 0 ≤ left - 1 := by have : ¬ left = 0 := fun e => hb (.inl e); omega
      by_cases hp : mayF A k x.k0 (b.lo x.n) (left - 1) < 0 ∨ ¬ tBare x = x
      · rw [mayF_left hr hg hb hp] at hm; omega
      have h1 := mayF_le A k x.k0 (b.lo x.n) (left - 1) hl
      by_cases hq : mayF A k x.k1 (b.hi x.n) (left - 1 - mayF A k x.k0 (b.lo x.n) (left - 1)) < 0 ∨ ¬ mayF A k x.k0 (b.lo x.n) (left - 1) + mayF A k x.k1 (b.hi x.n) (left - 1 - mayF A k x.k0 (b.lo x.n) (left - 1)) + 1 = x.s
      · rw [mayF_right hr hg hb rfl hp rfl hq] at hm; omega
      rw [mayF_yes hr hg hb rfl hp rfl hq]
      have hp0 : ¬ mayF A k x.k0 (b.lo x.n) (left - 1) < 0 := fun e => hp (.inl e)
      have hq0 : ¬ mayF A k x.k1 (b.hi x.n) (left - 1 - mayF A k x.k0 (b.lo x.n) (left - 1)) < 0 := fun e => hq (.inl e)
      obtain ⟨L, hL, eL, bL⟩ := may_sound A k x.k0 (b.lo x.n) (left - 1) hl (by omega) (by omega)
      obtain ⟨R, hR, eR, bR⟩ := may_sound A k x.k1 (b.hi x.n) (left - 1 - mayF A k x.k0 (b.lo x.n) (left - 1)) (by omega) (by omega) (by omega)
      have hbx : b.holds x.n := holds_not.2 fun e => hb (.inr (.inr e))
      have hsz : mayF A k x.k0 (b.lo x.n) (left - 1) + mayF A k x.k1 (b.hi x.n) (left - 1 - mayF A k x.k0 (b.lo x.n) (left - 1)) + 1 = x.s := Decidable.not_not.1 fun e => hq (.inr e)
      have hbare : tBare x = x := Decidable.not_not.1 fun e => hp (.inr e)
      refine ⟨L ++ ⟨x.n, x.v⟩ :: R, .node (g := x.gen) (a := x.k0) (b := x.k1) ?_ hL hR (fun y hy => ?_) (Srt.join hL.srt hR.srt (fun y hy => ?_) (fun y hy => ?_)), ?_, fun y hy => ?_⟩
      · rw [hg, show (L.length : Int) + R.length + 1 = x.s by omega]; exact congrArg some hbare.symm
      · rcases List.mem_append.1 hy with hy | hy
        · exact (bL y hy).2.2 rfl
        · exact (bR y hy).2.2 rfl
      · exact (bL y hy).2.1 rfl
      · exact (bR y hy).1 rfl
      · simp only [List.length_append, List.length_cons]; omega
      · rcases List.mem_append.1 hy with hy | hy
        · have h3 := bL y hy
          exact ⟨h3.1, fun e => by have := h3.2.1 rfl; have h4 := hbx.2.1 e; simp only [Bnd.lo] at this; omega, fun e => befK_trans (hbx.2.2 e) (h3.2.2 rfl)⟩
        · rcases List.mem_cons.1 hy with e | hy
          · rw [e]; exact hbx
          · have h3 := bR y hy
            exact ⟨fun e => by have := h3.1 rfl; have h4 := hbx.1 e; simp only [Bnd.hi] at this; omega, h3.2.1, fun e => befK_trans (hbx.2.2 e) (h3.2.2 rfl)⟩
theorem may_complete {A : Ar} {r : Int} {l : List It} (h : IsT A r l) : ∀ (k : Nat) (b : Bnd) (left : Int), (l.length : Int) ≤ left → left < k → (∀ y ∈ l, b.holds y.k) → mayF A k r b left = l.length := by
  induction h with
  | nil => intro k b left h1 h2 _; cases k with
    | zero => omega
    | succ k => exact mayF_0
  | @node r g a b' it L R h1 h2 h3 h4 h5 ih1 ih2 =>
    intro k b left hl hk hb
    simp only [List.length_append, List.length_cons] at hl ⊢
    cases k with
    | zero => omega
    | succ k =>
      have hr : ¬ r = 0 := fun e => by rw [e, getA_0] at h1; cases h1
      have hsp := h5.split
      have hit : b.holds it.k := hb it (by simp)
      have hnb : ¬ (left = 0 ∨ ¬ (tNode g it.k it.v ((L.length : Int) + R.length + 1) a b').kind = 1 ∨ b.bad (tNode g it.k it.v ((L.length : Int) + R.length + 1) a b').n) := by
        rintro (e | e | e)
        · omega
        · exact e rfl
        · exact holds_not.1 hit e
      have e1 : mayF A k a (b.lo it.k) (left - 1) = L.length := ih1 k _ _ (by omega) (by omega) (fun y hy => by
        have := hb y (by simp [hy])
        exact ⟨this.1, fun _ => hsp.2.2.1 y hy, fun _ => h4 y (List.mem_append_left _ hy)⟩)
      have e2 : mayF A k b' (b.hi it.k) (left - 1 - L.length) = R.length := ih2 k _ _ (by omega) (by omega) (fun y hy => by
        have := hb y (by simp [hy])
        exact ⟨fun _ => hsp.2.2.2 y hy, this.2.1, fun _ => h4 y (List.mem_append_right _ hy)⟩)
      rw [mayF_yes hr h1 hnb e1 (by rintro (e | e); omega; exact e rfl) e2 (by rintro (e | e); omega; exact e rfl)]
      omega
theorem bnd0_holds (n : Int) : bnd0.holds n := ⟨fun h => (by cases h), fun h => (by cases h), fun h => (by cases h)⟩
/-- is a reference a map's? -/
def isMap (A : Ar) (r : Int) : Prop := AOk A ∧ ∃ l, IsT A r l ∧ l.length ≤ 200
theorem isMap_iff {A : Ar} {r : Int} (hA : AOk A) : 0 ≤ mayF A 201 r bnd0 200 ↔ isMap A r := by
  constructor
  · intro h
    obtain ⟨l, h1, h2, _⟩ := may_sound A 201 r bnd0 200 (by decide) (by decide) h
    have := (mayF_le A 201 r bnd0 200 (by decide)).1
    exact ⟨hA, l, h1, by omega⟩
  · rintro ⟨_, l, h1, h2⟩
    rw [may_complete h1 201 bnd0 200 (by omega) (by decide) (fun y _ => bnd0_holds _)]
    omega
noncomputable def isMapB (A : Ar) (r : Int) : Bool := @decide (isMap A r) (Classical.propDecidable _)
theorem isMapB_iff (A : Ar) (r : Int) : isMapB A r = true ↔ isMap A r := by unfold isMapB; exact @decide_eq_true_iff _ (Classical.propDecidable _)
theorem isMapB_yes {A : Ar} {r : Int} (h : isMap A r) : isMapB A r = true := (isMapB_iff A r).2 h
theorem isMapB_no {A : Ar} {r : Int} (h : ¬ isMap A r) : isMapB A r = false := by rw [Bool.eq_false_iff]; exact fun e => h ((isMapB_iff A r).1 e)
/-- the reference's word for it -/
theorem refRight_iff {A : Ar} {r : Int} : (AOk A ∧ (rowF A 202 r 201).length ≤ 200 ∧ Srt (rowF A 202 r 201) ∧ isF A 202 r (rowF A 202 r 201) = true) ↔ isMap A r := by
  constructor
  · rintro ⟨h1, h2, h3, h4⟩
    exact ⟨h1, _, (isF_isT 202 r _ h3 (by omega)).1 h4, h2⟩
  · rintro ⟨h1, l, h2, h3⟩
    rw [rowF_isT h2 202 201 (by omega) (by decide)]
    exact ⟨h1, h3, h2.srt, (isF_isT 202 r l h2.srt (by omega)).2 h2⟩
theorem isMap_row {A : Ar} {r : Int} (h : isMap A r) : IsT A r (rowF A 202 r 201) ∧ (rowF A 202 r 201).length ≤ 200 := by
  obtain ⟨_, l, h2, h3⟩ := h
  rw [rowF_isT h2 202 201 (by omega) (by decide)]
  exact ⟨h2, h3⟩
end Go.Proofs.Ytjafbffehmombaa
