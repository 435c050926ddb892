/-
  The ways down a map, in plain Lean.
-/
import Derived.Test.YtjafbffehmombaaTreapBuild
import Derived.Test.YtjafbffehmombaaForge
set_option linter.unusedVariables false
set_option linter.unusedSimpArgs false
namespace Go.Proofs.Ytjafbffehmombaa
open Go Go.XL

theorem sizeA_isT {A : Ar} {r : Int} {l : List It} (h : IsT A r l) : sizeA A r = l.length := by
  unfold sizeA
  cases hg : getA A r with
  | none => rw [h.size.1 hg]; rfl
  | some y => exact h.size.2 y hg
def downF {σ : Type} (A : Ar) (step : σ → Node → Int → σ × Int) : Nat → Int → σ → σ
  | 0, _, s => s
  | k + 1, r, s => match getA A r with
    | none => s
    | some x => if (step s x (sizeA A x.k0)).2 = 0 then downF A step k x.k0 (step s x (sizeA A x.k0)).1 else if (step s x (sizeA A x.k0)).2 = 1 then downF A step k x.k1 (step s x (sizeA A x.k0)).1 else (step s x (sizeA A x.k0)).1
section
variable {σ : Type} {A : Ar} {step : σ → Node → Int → σ × Int} {k : Nat} {r : Int} {s : σ} {x : Node}
theorem downF_none (h : getA A r = none) : downF A step k r s = s := by
  cases k with
  | zero => rfl
  | succ k => rw [downF, h]
theorem downF_l (h : getA A r = some x) (hq : (step s x (sizeA A x.k0)).2 = 0) : downF A step (k + 1) r s = downF A step k x.k0 (step s x (sizeA A x.k0)).1 := by rw [downF, h]; exact if_pos hq
theorem downF_r (h : getA A r = some x) (hq : (step s x (sizeA A x.k0)).2 = 1) : downF A step (k + 1) r s = downF A step k x.k1 (step s x (sizeA A x.k0)).1 := by
  rw [downF, h]; simp only []; rw [if_neg (by omega), if_pos hq]
theorem downF_stop (h : getA A r = some x) (hq : ¬ (step s x (sizeA A x.k0)).2 = 0 ∧ ¬ (step s x (sizeA A x.k0)).2 = 1) : downF A step (k + 1) r s = (step s x (sizeA A x.k0)).1 := by
  rw [downF, h]; simp only []; rw [if_neg hq.1, if_neg hq.2]
end
/-! ### the five ways -/
def stSize (s : Int) (n : Node) (left : Int) : Int × Int := (n.s, -1)
structure AtS where
  k : Int
  x : It
  is : Bool
def stAt (s : AtS) (n : Node) (left : Int) : AtS × Int := if s.k < left then (s, 0) else if s.k > left then ({ s with k := IntKind.i64.wrap (s.k - (left + 1)) }, 1) else (⟨s.k, ⟨n.n, n.v⟩, true⟩, -1)
def stRank (key s : Int) (n : Node) (left : Int) : Int × Int := if key ≤ n.n then (s, 0) else (IntKind.i64.wrap (s + (left + 1)), 1)
def stFloor (key : Int) (s : It × Bool) (n : Node) (left : Int) : (It × Bool) × Int := if n.n > key then (s, 0) else ((⟨n.n, n.v⟩, true), 1)
def stCeil (key : Int) (s : It × Bool) (n : Node) (left : Int) : (It × Bool) × Int := if n.n < key then (s, 1) else ((⟨n.n, n.v⟩, true), 0)
theorem down_size {A : Ar} {r : Int} {l : List It} (h : IsT A r l) {k : Nat} (hk : l.length < k) : downF A stSize k r 0 = l.length := by
  cases h with
  | nil => rw [downF_none (getA_0 A)]; rfl
  | node h1 h2 h3 h4 h5 =>
    cases k with
    | zero => omega
    | succ k =>
      rw [downF_stop h1 ⟨by simp [stSize], by simp [stSize]⟩]
      simp [stSize, tNode]
      try omega
def atL (l : List It) (s : AtS) : It × Bool := if 0 ≤ s.k ∧ s.k < l.length then (l.getD s.k.toNat it0, true) else (s.x, s.is)
theorem down_at {A : Ar} {r : Int} {l : List It} (h : IsT A r l) : ∀ (k : Nat) (s : AtS), l.length < k → l.length ≤ 1000 → I64 s.k → ((downF A stAt k r s).x, (downF A stAt k r s).is) = atL l s := by
  induction h with
  | nil => intro k s _ _ _; rw [downF_none (getA_0 A), atL, if_neg (by simp)]
  | @node r g a b it L R h1 h2 h3 h4 h5 ih1 ih2 =>
    intro k s hk hl hs
    simp only [List.length_append, List.length_cons] at hk hl
    unfold I64 at hs
    cases k with
    | zero => omega
    | succ k =>
      have hsz : sizeA A (tNode g it.k it.v ((L.length : Int) + R.length + 1) a b).k0 = L.length := sizeA_isT h2
      by_cases q1 : s.k < L.length
      · have e : stAt s (tNode g it.k it.v ((L.length : Int) + R.length + 1) a b) L.length = (s, 0) := by rw [stAt, if_pos q1]
        rw [downF_l h1 (by rw [hsz, e]), hsz, e]
        show ((downF A stAt k a s).x, (downF A stAt k a s).is) = _
        rw [ih1 k s (by omega) (by omega) hs]
        unfold atL
        by_cases q2 : 0 ≤ s.k
        · rw [if_pos ⟨q2, q1⟩, if_pos ⟨q2, by simp; omega⟩]
          congr 1
          rw [List.getD_eq_getElem?_getD, List.getD_eq_getElem?_getD, List.getElem?_append_left (by omega)]
        · rw [if_neg (fun e => q2 e.1), if_neg (fun e => q2 e.1)]
      · by_cases q2 : s.k > L.length
        · have ew : IntKind.i64.wrap (s.k - ((L.length : Int) + 1)) = s.k - (L.length + 1) := wrap_i64 (by omega)
          have e : stAt s (tNode g it.k it.v ((L.length : Int) + R.length + 1) a b) L.length = ({ s with k := s.k - (L.length + 1) }, 1) := by rw [stAt, if_neg q1, if_pos q2, ew]
          rw [downF_r h1 (by rw [hsz, e]), hsz, e]
          show ((downF A stAt k b _).x, (downF A stAt k b _).is) = _
          rw [ih2 k _ (by omega) (by omega) (by show I64 (s.k - (L.length + 1)); unfold I64; omega)]
          unfold atL
          simp only []
          by_cases q3 : s.k - (L.length + 1) < R.length
          · rw [if_pos ⟨by omega, q3⟩, if_pos ⟨by omega, by simp; omega⟩]
            congr 1
            rw [List.getD_eq_getElem?_getD, List.getD_eq_getElem?_getD, List.getElem?_append_right (by omega)]
            obtain ⟨m, hm⟩ : ∃ m, s.k.toNat - L.length = m + 1 := ⟨s.k.toNat - L.length - 1, by omega⟩
            rw [hm, List.getElem?_cons_succ, show (s.k - ((L.length : Int) + 1)).toNat = m by omega]
          · rw [if_neg (fun e => q3 e.2), if_neg (fun e => q3 (by have := e.2; simp at this; omega))]
        · have e : stAt s (tNode g it.k it.v ((L.length : Int) + R.length + 1) a b) L.length = (⟨s.k, it, true⟩, -1) := by rw [stAt, if_neg q1, if_neg q2]; rfl
          rw [downF_stop h1 (by rw [hsz, e]; exact ⟨(show ¬ (-1 : Int) = 0 by decide), (show ¬ (-1 : Int) = 1 by decide)⟩), hsz, e]
          unfold atL
          rw [if_pos ⟨by omega, by simp; omega⟩]
          have hm : s.k.toNat = L.length := by omega
          rw [hm, List.getD_eq_getElem?_getD, List.getElem?_append_right (Nat.le_refl _), Nat.sub_self]
          rfl
theorem down_rank {A : Ar} {r : Int} {l : List It} (key : Int) (h : IsT A r l) : ∀ (k : Nat) (s : Int), l.length < k → 0 ≤ s → s + l.length ≤ 1000000 → downF A (stRank key) k r s = s + (l.filter fun x => decide (x.k < key)).length := by
  induction h with
  | nil => intro k s _ _ _; rw [downF_none (getA_0 A)]; simp
  | @node r g a b it L R h1 h2 h3 h4 h5 ih1 ih2 =>
    intro k s hk hs hs2
    simp only [List.length_append, List.length_cons] at hk hs2
    have hsp := h5.split
    cases k with
    | zero => omega
    | succ k =>
      have hsz : sizeA A (tNode g it.k it.v ((L.length : Int) + R.length + 1) a b).k0 = L.length := sizeA_isT h2
      rw [List.filter_append, List.filter_cons, List.length_append]
      by_cases q : key ≤ it.k
      · have e : stRank key s (tNode g it.k it.v ((L.length : Int) + R.length + 1) a b) L.length = (s, 0) := if_pos q
        rw [downF_l h1 (by rw [hsz, e]), hsz, e, if_neg (by simp; omega)]
        have hR : R.filter (fun x => decide (x.k < key)) = [] := by
          rw [List.filter_eq_nil_iff]; intro y hy; have := hsp.2.2.2 y hy; simp; omega
        rw [hR]
        show downF A (stRank key) k a s = _
        rw [ih1 k s (by omega) hs (by omega)]
        simp
      · have ew : IntKind.i64.wrap (s + ((L.length : Int) + 1)) = s + (L.length + 1) := wrap_i64 (by omega)
        have e : stRank key s (tNode g it.k it.v ((L.length : Int) + R.length + 1) a b) L.length = (s + (L.length + 1), 1) := by rw [stRank, if_neg (show ¬ key ≤ (tNode g it.k it.v ((L.length : Int) + R.length + 1) a b).n from q), ew]
        rw [downF_r h1 (by rw [hsz, e]), hsz, e, if_pos (by simp; omega)]
        have hL : L.filter (fun x => decide (x.k < key)) = L := by
          rw [List.filter_eq_self]; intro y hy; have := hsp.2.2.1 y hy; simp; omega
        rw [hL]
        show downF A (stRank key) k b _ = _
        have hRl : (R.filter fun x => decide (x.k < key)).length ≤ R.length := List.length_filter_le _ _
        rw [ih2 k _ (by omega) (by omega) (by omega)]
        simp
        omega
def floorL (key : Int) (l : List It) (s : It × Bool) : It × Bool := match (l.filter fun x => decide (x.k ≤ key)).getLast? with
  | some y => (y, true)
  | none => s
def ceilL (key : Int) (l : List It) (s : It × Bool) : It × Bool := match (l.filter fun x => decide (key ≤ x.k)).head? with
  | some y => (y, true)
  | none => s
theorem floor_le {key : Int} {L R : List It} {it : It} (h : Srt (L ++ it :: R)) (s : It × Bool) (q : it.k ≤ key) : floorL key (L ++ it :: R) s = floorL key R (it, true) := by
  unfold floorL
  rw [List.filter_append, List.filter_cons, if_pos (by simpa using q)]
  cases hR : R.filter (fun x => decide (x.k ≤ key)) with
  | nil => simp
  | cons y ys => simp [List.getLast?_append, List.getLast?_cons]
theorem floor_gt {key : Int} {L R : List It} {it : It} (h : Srt (L ++ it :: R)) (s : It × Bool) (q : it.k > key) : floorL key (L ++ it :: R) s = floorL key L s := by
  unfold floorL
  have hR : R.filter (fun x => decide (x.k ≤ key)) = [] := by
    rw [List.filter_eq_nil_iff]; intro y hy; have := h.split.2.2.2 y hy; simp; omega
  rw [List.filter_append, List.filter_cons, if_neg (by simp; omega), hR, List.append_nil]
theorem ceil_ge {key : Int} {L R : List It} {it : It} (h : Srt (L ++ it :: R)) (s : It × Bool) (q : ¬ it.k < key) : ceilL key (L ++ it :: R) s = ceilL key L (it, true) := by
  unfold ceilL
  rw [List.filter_append, List.filter_cons, if_pos (by simp; omega)]
  cases hL : L.filter (fun x => decide (key ≤ x.k)) with
  | nil => simp
  | cons y ys => simp
theorem ceil_lt {key : Int} {L R : List It} {it : It} (h : Srt (L ++ it :: R)) (s : It × Bool) (q : it.k < key) : ceilL key (L ++ it :: R) s = ceilL key R s := by
  unfold ceilL
  have hL : L.filter (fun x => decide (key ≤ x.k)) = [] := by
    rw [List.filter_eq_nil_iff]; intro y hy; have := h.split.2.2.1 y hy; simp; omega
  rw [List.filter_append, List.filter_cons, if_neg (by simp; omega), hL, List.nil_append]
theorem down_floor {A : Ar} {r : Int} {l : List It} (key : Int) (h : IsT A r l) : ∀ (k : Nat) (s : It × Bool), l.length < k → downF A (stFloor key) k r s = floorL key l s := by
  induction h with
  | nil => intro k s _; rw [downF_none (getA_0 A)]; rfl
  | @node r g a b it L R h1 h2 h3 h4 h5 ih1 ih2 =>
    intro k s hk
    simp only [List.length_append, List.length_cons] at hk
    cases k with
    | zero => omega
    | succ k =>
      have hsz : sizeA A (tNode g it.k it.v ((L.length : Int) + R.length + 1) a b).k0 = L.length := sizeA_isT h2
      by_cases q : it.k > key
      · have e : stFloor key s (tNode g it.k it.v ((L.length : Int) + R.length + 1) a b) L.length = (s, 0) := if_pos q
        rw [downF_l h1 (by rw [hsz, e]), hsz, e, floor_gt h5 s q]
        exact ih1 k s (by omega)
      · have e : stFloor key s (tNode g it.k it.v ((L.length : Int) + R.length + 1) a b) L.length = ((it, true), 1) := if_neg q
        rw [downF_r h1 (by rw [hsz, e]), hsz, e, floor_le h5 s (by omega)]
        exact ih2 k _ (by omega)
theorem down_ceil {A : Ar} {r : Int} {l : List It} (key : Int) (h : IsT A r l) : ∀ (k : Nat) (s : It × Bool), l.length < k → downF A (stCeil key) k r s = ceilL key l s := by
  induction h with
  | nil => intro k s _; rw [downF_none (getA_0 A)]; rfl
  | @node r g a b it L R h1 h2 h3 h4 h5 ih1 ih2 =>
    intro k s hk
    simp only [List.length_append, List.length_cons] at hk
    cases k with
    | zero => omega
    | succ k =>
      have hsz : sizeA A (tNode g it.k it.v ((L.length : Int) + R.length + 1) a b).k0 = L.length := sizeA_isT h2
      by_cases q : it.k < key
      · have e : stCeil key s (tNode g it.k it.v ((L.length : Int) + R.length + 1) a b) L.length = (s, 1) := if_pos q
        rw [downF_r h1 (by rw [hsz, e]), hsz, e, ceil_lt h5 s q]
        exact ih2 k s (by omega)
      · have e : stCeil key s (tNode g it.k it.v ((L.length : Int) + R.length + 1) a b) L.length = ((it, true), 0) := if_neg q
        rw [downF_l h1 (by rw [hsz, e]), hsz, e, ceil_ge h5 s q]
        exact ih1 k _ (by omega)
end Go.Proofs.Ytjafbffehmombaa
