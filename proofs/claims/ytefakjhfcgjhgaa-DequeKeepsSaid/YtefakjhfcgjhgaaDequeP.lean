/-
  Rows in an arena, in plain Lean: which references are rows', and what they hold.
-/
import Derived.Test.YtefakjhfcgjhgaaForge
set_option linter.unusedVariables false
set_option linter.unusedSimpArgs false
namespace Go.Proofs.Ytefakjhfcgjhgaa
open Go Go.XL

def rNode (g v s a b : Int) : Node := ⟨5, g, 0, v, s, a, b, 0, 0, 0, 0, 0, 0, 0, 0, 0⟩
/-- a reference is the row of values; the places of its nodes -/
inductive IsR (A : Ar) : Int → List Int → List Int → Prop
  | nil : IsR A 0 [] []
  | node {r g v a b : Int} {L R P Q : List Int} : getA A r = some (rNode g v ((L.length : Int) + R.length + 1) a b) → IsR A a L P → IsR A b R Q → (placeR r :: (P ++ Q)).Nodup → IsR A r (L ++ v :: R) (placeR r :: (P ++ Q))
section
variable {A B : Ar} {r : Int} {V P : List Int}
theorem getA_00 (A : Ar) : getA A 0 = none := by
  cases h : getA A 0 with
  | none => rfl
  | some x =>
    have h2 := (getA_rng h).1
    rw [placeR_not (fun hn : nodeR 0 => by have := (nodeR_iff 0).1 hn; exact this.1 rfl)] at h2
    omega
theorem IsR.zero (h : IsR A 0 V P) : V = [] ∧ P = [] := by
  cases h with
  | nil => exact ⟨rfl, rfl⟩
  | node h1 => rw [getA_00] at h1; cases h1
theorem IsR.unique (h : IsR A r V P) : ∀ {V' P' : List Int}, IsR A r V' P' → V' = V ∧ P' = P := by
  induction h with
  | nil => intro V' P' h; exact h.zero
  | @node r g v a b L R P Q h1 h2 h3 h4 ih1 ih2 =>
    intro V' P' h
    cases h with
    | nil => rw [getA_00] at h1; cases h1
    | node k1 k2 k3 k4 =>
      rw [h1] at k1
      simp only [Option.some.injEq, rNode, Node.mk.injEq] at k1
      obtain ⟨_, _, _, e1, _, e2, e3, _⟩ := k1
      subst e2 e3
      obtain ⟨rfl, rfl⟩ := ih1 k2
      obtain ⟨rfl, rfl⟩ := ih2 k3
      rw [e1]
      exact ⟨rfl, rfl⟩
theorem IsR.len (h : IsR A r V P) : P.length = V.length := by
  induction h with
  | nil => rfl
  | node _ _ _ _ ih1 ih2 => simp only [List.length_cons, List.length_append, ih1, ih2]; omega
theorem IsR.nodup (h : IsR A r V P) : P.Nodup := by
  cases h with
  | nil => exact List.nodup_nil
  | node _ _ _ h => exact h
theorem IsR.ext (h : IsR A r V P) (e : Ext A B) : IsR B r V P := by
  induction h with
  | nil => exact .nil
  | node h1 _ _ h4 ih1 ih2 => exact .node (e.get h1) ih1 ih2 h4
theorem IsR.rng (h : IsR A r V P) : ∀ p ∈ P, 0 ≤ p ∧ p < A.nodes.length := by
  induction h with
  | nil => intro p hp; cases hp
  | node h1 _ _ _ ih1 ih2 =>
    intro p hp
    rcases List.mem_cons.1 hp with rfl | hp
    · exact getA_rng h1
    · exact (List.mem_append.1 hp).elim (ih1 p) (ih2 p)
theorem IsR.used (h : IsR A r V P) (hA : AOk A) : ∀ p ∈ P, ¬ p ∈ A.free := by
  induction h with
  | nil => intro p hp; cases hp
  | node h1 _ _ _ ih1 ih2 =>
    intro p hp
    rcases List.mem_cons.1 hp with rfl | hp
    · exact getA_used hA h1
    · exact (List.mem_append.1 hp).elim (ih1 p) (ih2 p)
theorem IsR.right (h : IsR A r V P) : rightR r = true := by
  cases h with
  | nil => exact (rightR_iff 0).2 (.inl rfl)
  | node h1 =>
    have h2 := (getA_rng h1).1
    refine Classical.byContradiction fun e => ?_
    rw [placeR_not (fun hn : nodeR r => e hn.2)] at h2
    omega
theorem IsR.size (h : IsR A r V P) : sizeA A r = V.length := by
  cases h with
  | nil => unfold sizeA; rw [getA_00]; rfl
  | node h1 => unfold sizeA; rw [h1]; simp only [rNode, List.length_append, List.length_cons]; omega
theorem IsR.ne (h : IsR A r V P) (hr : ¬ r = 0) : ∃ (x : Node) (L R P1 P2 : List Int), V = L ++ x.v :: R ∧ P = placeR r :: (P1 ++ P2) ∧ getA A r = some x ∧ x = rNode x.gen x.v ((L.length : Int) + R.length + 1) x.k0 x.k1 ∧ IsR A x.k0 L P1 ∧ IsR A x.k1 R P2 ∧ (placeR r :: (P1 ++ P2)).Nodup := by
  cases h with
  | nil => exact absurd rfl hr
  | node h1 h2 h3 h4 => exact ⟨_, _, _, _, _, rfl, rfl, h1, rfl, h2, h3, h4⟩
theorem IsR.pos (h : IsR A r V P) (hr : ¬ r = 0) : 0 < V.length := by
  obtain ⟨x, L, R, P1, P2, rfl, _⟩ := h.ne hr
  simp only [List.length_append, List.length_cons]; omega
end
/-! ### which may be -/
def rBare (y : Node) : Node := ⟨y.kind, y.gen, 0, y.v, y.s, y.k0, y.k1, 0, 0, 0, 0, 0, 0, 0, 0, 0⟩
theorem rBare_iff {y : Node} (h : y.kind = 5) : rBare y = y ↔ y = rNode y.gen y.v y.s y.k0 y.k1 := by
  unfold rBare rNode; rw [h]; exact eq_comm
def mayR (A : Ar) : Nat → Int → List Bool → Int → Int × List Bool
  | 0, r, seen, _ => (if r = 0 then 0 else -1, seen)
  | k + 1, r, seen, left =>
    if r = 0 then (0, seen) else match getA A r with
    | none => (-1, seen)
    | some y =>
      if left ≤ 0 ∨ ¬ y.kind = 5 ∨ seen.getD (placeR r).toNat false = true then (-1, seen) else
      if (mayR A k y.k0 (seen.set (placeR r).toNat true) (left - 1)).1 < 0 ∨ ¬ rBare y = y then (-1, (mayR A k y.k0 (seen.set (placeR r).toNat true) (left - 1)).2) else
      if (mayR A k y.k1 (mayR A k y.k0 (seen.set (placeR r).toNat true) (left - 1)).2 (left - 1 - (mayR A k y.k0 (seen.set (placeR r).toNat true) (left - 1)).1)).1 < 0 ∨
        ¬ (mayR A k y.k0 (seen.set (placeR r).toNat true) (left - 1)).1 + (mayR A k y.k1 (mayR A k y.k0 (seen.set (placeR r).toNat true) (left - 1)).2 (left - 1 - (mayR A k y.k0 (seen.set (placeR r).toNat true) (left - 1)).1)).1 + 1 = y.s
      then (-1, (mayR A k y.k1 (mayR A k y.k0 (seen.set (placeR r).toNat true) (left - 1)).2 (left - 1 - (mayR A k y.k0 (seen.set (placeR r).toNat true) (left - 1)).1)).2)
      else ((mayR A k y.k0 (seen.set (placeR r).toNat true) (left - 1)).1 + (mayR A k y.k1 (mayR A k y.k0 (seen.set (placeR r).toNat true) (left - 1)).2 (left - 1 - (mayR A k y.k0 (seen.set (placeR r).toNat true) (left - 1)).1)).1 + 1,
        (mayR A k y.k1 (mayR A k y.k0 (seen.set (placeR r).toNat true) (left - 1)).2 (left - 1 - (mayR A k y.k0 (seen.set (placeR r).toNat true) (left - 1)).1)).2)
section
variable {A : Ar} {k : Nat} {r left : Int} {seen : List Bool} {y : Node}
theorem mayR_0 (A : Ar) (k : Nat) (seen : List Bool) (left : Int) : mayR A k 0 seen left = (0, seen) := by cases k <;> simp [mayR]
theorem mayR_no (h0 : ¬ r = 0) (h : getA A r = none) : mayR A (k + 1) r seen left = (-1, seen) := by rw [mayR, if_neg h0, h]
theorem mayR_bad (h0 : ¬ r = 0) (h : getA A r = some y) (hc : left ≤ 0 ∨ ¬ y.kind = 5 ∨ seen.getD (placeR r).toNat false = true) : mayR A (k + 1) r seen left = (-1, seen) := by rw [mayR, if_neg h0, h]; exact if_pos hc
theorem mayR_bad2 {m1 : Int × List Bool} (h0 : ¬ r = 0) (h : getA A r = some y) (hc : ¬ (left ≤ 0 ∨ ¬ y.kind = 5 ∨ seen.getD (placeR r).toNat false = true)) (hm : mayR A k y.k0 (seen.set (placeR r).toNat true) (left - 1) = m1) (h2 : m1.1 < 0 ∨ ¬ rBare y = y) :
    mayR A (k + 1) r seen left = (-1, m1.2) := by
  rw [mayR, if_neg h0, h]; simp only []; rw [if_neg hc, hm, if_pos h2]
theorem mayR_bad3 {m1 m2 : Int × List Bool} (h0 : ¬ r = 0) (h : getA A r = some y) (hc : ¬ (left ≤ 0 ∨ ¬ y.kind = 5 ∨ seen.getD (placeR r).toNat false = true)) (hm : mayR A k y.k0 (seen.set (placeR r).toNat true) (left - 1) = m1) (h2 : ¬ (m1.1 < 0 ∨ ¬ rBare y = y))
    (hm2 : mayR A k y.k1 m1.2 (left - 1 - m1.1) = m2) (h3 : m2.1 < 0 ∨ ¬ m1.1 + m2.1 + 1 = y.s) : mayR A (k + 1) r seen left = (-1, m2.2) := by
  rw [mayR, if_neg h0, h]; simp only []; rw [if_neg hc, hm, if_neg h2, hm2, if_pos h3]
theorem mayR_good {m1 m2 : Int × List Bool} (h0 : ¬ r = 0) (h : getA A r = some y) (hc : ¬ (left ≤ 0 ∨ ¬ y.kind = 5 ∨ seen.getD (placeR r).toNat false = true)) (hm : mayR A k y.k0 (seen.set (placeR r).toNat true) (left - 1) = m1) (h2 : ¬ (m1.1 < 0 ∨ ¬ rBare y = y))
    (hm2 : mayR A k y.k1 m1.2 (left - 1 - m1.1) = m2) (h3 : ¬ (m2.1 < 0 ∨ ¬ m1.1 + m2.1 + 1 = y.s)) : mayR A (k + 1) r seen left = (m1.1 + m2.1 + 1, m2.2) := by
  rw [mayR, if_neg h0, h]; simp only []; rw [if_neg hc, hm, if_neg h2, hm2, if_neg h3]
end
/-- places that were met are marked -/
def setAll (seen : List Bool) (P : List Int) : List Bool := P.foldl (fun s p => s.set p.toNat true) seen
theorem setAll_len : ∀ (P : List Int) (seen : List Bool), (setAll seen P).length = seen.length
  | [], _ => rfl
  | p :: P, seen => by rw [setAll, List.foldl_cons]; exact (setAll_len P _).trans (List.length_set)
theorem setAll_app (seen : List Bool) (P Q : List Int) : setAll seen (P ++ Q) = setAll (setAll seen P) Q := List.foldl_append
theorem setD_ne {seen : List Bool} {i j : Nat} (h : i ≠ j) : (seen.set i true).getD j false = seen.getD j false := by
  rw [List.getD_eq_getElem?_getD, List.getD_eq_getElem?_getD, List.getElem?_set_ne h]
theorem setD_eq {seen : List Bool} {i : Nat} (h : i < seen.length) : (seen.set i true).getD i false = true := by
  rw [List.getD_eq_getElem?_getD, List.getElem?_set_self h]; rfl
theorem setAll_other : ∀ (P : List Int) (seen : List Bool) (q : Int), 0 ≤ q → (∀ p ∈ P, 0 ≤ p) → ¬ q ∈ P → (setAll seen P).getD q.toNat false = seen.getD q.toNat false
  | [], _, _, _, _, _ => rfl
  | p :: P, seen, q, hq, hp, hn => by
    rw [setAll, List.foldl_cons]
    have h1 := hp p List.mem_cons_self
    have hne : p.toNat ≠ q.toNat := fun e => hn (by rw [show q = p by omega]; exact List.mem_cons_self)
    rw [← setD_ne (seen := seen) hne]
    exact setAll_other P _ q hq (fun x hx => hp x (List.mem_cons_of_mem _ hx)) (fun h => hn (List.mem_cons_of_mem _ h))
theorem setAll_in : ∀ (P : List Int) (seen : List Bool) (q : Int), (∀ p ∈ P, 0 ≤ p ∧ p < seen.length) → q ∈ P → (setAll seen P).getD q.toNat false = true
  | [], _, _, _, h => by cases h
  | p :: P, seen, q, hp, h => by
    rw [setAll, List.foldl_cons]
    have h1 := hp p List.mem_cons_self
    by_cases hq : q ∈ P
    · exact setAll_in P _ q (fun x hx => by rw [List.length_set]; exact hp x (List.mem_cons_of_mem _ hx)) hq
    · rcases List.mem_cons.1 h with e | h
      · subst e
        exact (setAll_other P _ q h1.1 (fun x hx => (hp x (List.mem_cons_of_mem _ hx)).1) hq).trans (setD_eq (by omega))
      · exact absurd h hq
theorem mayR_yes {A : Ar} {r : Int} {V P : List Int} (h : IsR A r V P) : ∀ (k : Nat) (seen : List Bool) (left : Int), (P.length : Int) ≤ left → left < k → (∀ p ∈ P, seen.getD p.toNat false = false) → mayR A k r seen left = ((P.length : Int), setAll seen P) := by
  induction h with
  | nil => intro k seen left _ _ _; rw [mayR_0]; rfl
  | @node r g v a b L R P Q h1 h2 h3 h4 ih1 ih2 =>
    intro k seen left hl hk hs
    simp only [List.length_cons, List.length_append] at hl
    obtain ⟨k, rfl⟩ : ∃ k', k = k' + 1 := ⟨k - 1, by omega⟩
    have h0 : ¬ r = 0 := fun e => by rw [e, getA_00] at h1; cases h1
    obtain ⟨hn1, hn2⟩ := List.nodup_cons.1 h4
    obtain ⟨hnP, hnQ, hPQ⟩ := List.nodup_append.1 hn2
    have hat := getA_rng h1
    have hP := h2.rng
    have hQ := h3.rng
    have hs1 : ∀ p ∈ P ++ Q, (seen.set (placeR r).toNat true).getD p.toNat false = false := by
      intro p hp
      have hp0 : 0 ≤ p := ((List.mem_append.1 hp).elim (fun h => (hP p h).1) (fun h => (hQ p h).1))
      rw [setD_ne (fun e => hn1 (by rw [show placeR r = p by omega]; exact hp))]
      exact hs p (List.mem_cons_of_mem _ hp)
    have e1 := ih1 k (seen.set (placeR r).toNat true) (left - 1) (by omega) (by omega) (fun p hp => hs1 p (List.mem_append_left _ hp))
    have e2 := ih2 k (setAll (seen.set (placeR r).toNat true) P) (left - 1 - P.length) (by omega) (by omega) (fun q hq => by
      rw [setAll_other P _ q (hQ q hq).1 (fun p hp => (hP p hp).1) (fun hqp => hPQ q hqp q hq rfl)]
      exact hs1 q (List.mem_append_right _ hq))
    have hl1 := h2.len
    have hl2 := h3.len
    rw [mayR_good h0 h1 (fun hc => by
      rcases hc with hc | hc | hc
      · omega
      · exact hc rfl
      · rw [hs _ List.mem_cons_self] at hc; cases hc) e1 (fun hc => hc.elim (fun h => by simp only [] at h; omega) (fun h => h rfl)) e2 (fun hc => by
        simp only [rNode] at hc
        omega)]
    simp only [List.length_cons, List.length_append, Prod.mk.injEq]
    refine ⟨by omega, ?_⟩
    show setAll (setAll (seen.set (placeR r).toNat true) P) Q = setAll seen (placeR r :: (P ++ Q))
    rw [← setAll_app]; rfl
theorem mayR_is {A : Ar} : ∀ (k : Nat) (r : Int) (seen : List Bool) (left : Int), 0 ≤ left → left < k → A.nodes.length ≤ seen.length → 0 ≤ (mayR A k r seen left).1 → ∃ V P, IsR A r V P ∧ (P.length : Int) ≤ left ∧ ∀ p ∈ P, seen.getD p.toNat false = false
  | 0, _, _, _, h1, h2, _, _ => absurd h1 (by omega)
  | k + 1, r, seen, left, h1, h2, hlen, h => by
    by_cases h0 : r = 0
    · subst h0; exact ⟨[], [], .nil, h1, by simp⟩
    · cases hg : getA A r with
      | none => rw [mayR_no h0 hg] at h; exact absurd h (show ¬ (0 : Int) ≤ -1 by decide)
      | some y =>
        by_cases hc : left ≤ 0 ∨ ¬ y.kind = 5 ∨ seen.getD (placeR r).toNat false = true
        · rw [mayR_bad h0 hg hc] at h; exact absurd h (show ¬ (0 : Int) ≤ -1 by decide)
        · obtain ⟨m1, hm1⟩ : ∃ m, mayR A k y.k0 (seen.set (placeR r).toNat true) (left - 1) = m := ⟨_, rfl⟩
          by_cases hc2 : m1.1 < 0 ∨ ¬ rBare y = y
          · rw [mayR_bad2 h0 hg hc hm1 hc2] at h; exact absurd h (show ¬ (0 : Int) ≤ -1 by decide)
          · have hat := getA_rng hg
            have hm0 : 0 ≤ m1.1 := Int.not_lt.1 fun e => hc2 (.inl e)
            have hbare : rBare y = y := Classical.not_not.1 fun e => hc2 (.inr e)
            have hl0 : ¬ left ≤ 0 := fun e => hc (.inl e)
            have hkind : y.kind = 5 := Classical.not_not.1 fun e => hc (.inr (.inl e))
            have hun : seen.getD (placeR r).toNat false = false := by
              cases hq : seen.getD (placeR r).toNat false with
              | false => rfl
              | true => exact absurd (.inr (.inr hq)) hc
            obtain ⟨L, P, hL, hPl, hPs⟩ := mayR_is k y.k0 (seen.set (placeR r).toNat true) (left - 1) (by omega) (by omega) (by rw [List.length_set]; exact hlen) (by rw [hm1]; exact hm0)
            have e1 := mayR_yes hL k (seen.set (placeR r).toNat true) (left - 1) hPl (by omega) hPs
            rw [hm1] at e1
            subst e1
            simp only [] at hm0 hc2
            obtain ⟨m2, hm2⟩ : ∃ m, mayR A k y.k1 (setAll (seen.set (placeR r).toNat true) P) (left - 1 - (P.length : Int)) = m := ⟨_, rfl⟩
            by_cases hc3 : m2.1 < 0 ∨ ¬ (P.length : Int) + m2.1 + 1 = y.s
            · rw [mayR_bad3 h0 hg hc hm1 hc2 hm2 hc3] at h; exact absurd h (show ¬ (0 : Int) ≤ -1 by decide)
            · have hm0' : 0 ≤ m2.1 := Int.not_lt.1 fun e => hc3 (.inl e)
              have hsum : (P.length : Int) + m2.1 + 1 = y.s := Classical.not_not.1 fun e => hc3 (.inr e)
              obtain ⟨R, Q, hR, hQl, hQs⟩ := mayR_is k y.k1 (setAll (seen.set (placeR r).toNat true) P) (left - 1 - (P.length : Int)) (by omega) (by omega) (by rw [setAll_len, List.length_set]; exact hlen) (by rw [hm2]; exact hm0')
              have e2 := mayR_yes hR k _ _ hQl (by omega) hQs
              rw [hm2] at e2
              subst e2
              simp only [] at hsum
              have hP := hL.rng
              have hQ := hR.rng
              have hatP : ¬ placeR r ∈ P := fun hin => by
                have := hPs _ hin
                rw [setD_eq (by omega)] at this; cases this
              have hPQ : ∀ q ∈ Q, ¬ q ∈ P := fun q hq hqp => by
                have := hQs q hq
                rw [setAll_in P _ q (fun p hp => by rw [List.length_set]; have := hP p hp; omega) hqp] at this; cases this
              have hatQ : ¬ placeR r ∈ Q := fun hin => by
                have := hQs _ hin
                rw [setAll_other P _ _ hat.1 (fun p hp => (hP p hp).1) hatP, setD_eq (by omega)] at this; cases this
              have hy := (rBare_iff hkind).1 hbare
              have hl1 := hL.len
              have hl2 := hR.len
              refine ⟨_, _, .node (g := y.gen) (v := y.v) (a := y.k0) (b := y.k1) (by rw [hg, hy, ← hsum]; simp only [rNode, hl1, hl2]) hL hR ?_, ?_, ?_⟩
              · refine List.nodup_cons.2 ⟨fun hin => (List.mem_append.1 hin).elim hatP hatQ, List.nodup_append.2 ⟨hL.nodup, hR.nodup, fun p hp q hq e => hPQ q hq (e ▸ hp)⟩⟩
              · simp only [List.length_cons, List.length_append]; omega
              · intro p hp
                rcases List.mem_cons.1 hp with rfl | hp
                · exact hun
                · rcases List.mem_append.1 hp with hp | hp
                  · have := hPs p hp
                    rwa [setD_ne (fun e => hatP (by rw [show placeR r = p by have := hP p hp; omega]; exact hp))] at this
                  · have := hQs p hp
                    rw [setAll_other P _ p (hQ p hp).1 (fun x hx => (hP x hx).1) (hPQ p hp)] at this
                    rwa [setD_ne (fun e => hatQ (by rw [show placeR r = p by have := hQ p hp; omega]; exact hp))] at this
def isRow (A : Ar) (r : Int) : Prop := AOk A ∧ ∃ V P, IsR A r V P ∧ V.length ≤ 200
theorem isRow_iff {A : Ar} {r : Int} (hA : AOk A) : 0 ≤ (mayR A 201 r (List.replicate A.nodes.length false) 200).1 ↔ isRow A r := by
  constructor
  · intro h
    obtain ⟨V, P, h1, h2, _⟩ := mayR_is 201 r _ 200 (by decide) (by decide) (by rw [List.length_replicate]; exact Nat.le_refl _) h
    exact ⟨hA, V, P, h1, by have := h1.len; omega⟩
  · rintro ⟨_, V, P, h1, h2⟩
    rw [mayR_yes h1 201 _ 200 (by have := h1.len; omega) (by decide) (fun p hp => by rw [List.getD_eq_getElem?_getD, List.getElem?_replicate]; split <;> rfl)]
    exact Int.natCast_nonneg _
noncomputable def isRowB (A : Ar) (r : Int) : Bool := @decide (isRow A r) (Classical.propDecidable _)
theorem isRowB_iff (A : Ar) (r : Int) : isRowB A r = true ↔ isRow A r := by unfold isRowB; exact @decide_eq_true_iff _ (Classical.propDecidable _)
theorem isRowB_yes {A : Ar} {r : Int} (h : isRow A r) : isRowB A r = true := (isRowB_iff A r).2 h
theorem isRowB_no {A : Ar} {r : Int} (h : ¬ isRow A r) : isRowB A r = false := by rw [Bool.eq_false_iff]; exact fun e => h ((isRowB_iff A r).1 e)
end Go.Proofs.Ytefakjhfcgjhgaa
