/-
  Ordered maps in an arena, in plain Lean: what is one, what is read of it.
-/
import Derived.Test.YtjafbffehmombaaArenaAt
import Derived.Test.YtjafbffehmombaaMix
set_option linter.unusedVariables false
set_option linter.unusedSimpArgs false
namespace Go.Proofs.Ytjafbffehmombaa
open Go Go.XL

theorem befK_irr (a : Int) : beforeK a a = false := decide_eq_false (by omega)
theorem befK_asym {a b : Int} (h : beforeK a b = true) : beforeK b a = false := by
  unfold beforeK at *
  rw [decide_eq_true_iff] at h
  exact decide_eq_false (by omega)
theorem befK_trans {a b c : Int} (h1 : beforeK a b = true) (h2 : beforeK b c = true) : beforeK a c = true := by
  unfold beforeK at *
  rw [decide_eq_true_iff] at *
  omega
theorem befK_total {a b : Int} (h : ¬ a = b) : beforeK a b = true ∨ beforeK b a = true := by
  unfold beforeK
  rw [decide_eq_true_iff, decide_eq_true_iff]
  omega

structure It where
  k : Int
  v : Int
  deriving DecidableEq
def It.cells (x : It) : List Value := [.int .i64 x.k, .int .i64 x.v]
def It.val (x : It) : Value := .agg x.cells.toArray
def It.ok (x : It) : Prop := I64 x.k ∧ I64 x.v
def it0 : It := ⟨0, 0⟩
theorem it_len (x : It) : x.cells.length = 2 := rfl

/-- keys that rise -/
def Srt (l : List It) : Prop := l.Pairwise (fun x y => x.k < y.k)
theorem Srt.split {L R : List It} {it : It} (h : Srt (L ++ it :: R)) : Srt L ∧ Srt R ∧ (∀ y ∈ L, y.k < it.k) ∧ (∀ y ∈ R, it.k < y.k) := by
  unfold Srt at *
  rw [List.pairwise_append, List.pairwise_cons] at h
  exact ⟨h.1, h.2.1.2, fun y hy => h.2.2 y hy it (by simp), h.2.1.1⟩
theorem Srt.join {L R : List It} {it : It} (h1 : Srt L) (h2 : Srt R) (h3 : ∀ y ∈ L, y.k < it.k) (h4 : ∀ y ∈ R, it.k < y.k) : Srt (L ++ it :: R) := by
  unfold Srt at *
  rw [List.pairwise_append, List.pairwise_cons]
  refine ⟨h1, ⟨h4, h2⟩, fun x hx y hy => ?_⟩
  rcases List.mem_cons.1 hy with e | hy
  · rw [e]; exact h3 x hx
  · have := h3 x hx; have := h4 y hy; omega

/-! ### the key that is above all others -/
def kAt (l : List It) (i : Nat) : Int := (l.getD i it0).k
def topAt (l : List It) : Nat → Int
  | 0 => -1
  | i + 1 => if topAt l i < 0 ∨ beforeK (kAt l i) (kAt l (topAt l i).toNat) = true then i else topAt l i
def topL (l : List It) : Int := topAt l l.length
theorem kAt_get {l : List It} {i : Nat} {x : It} (h : l[i]? = some x) : kAt l i = x.k := by rw [kAt, List.getD_eq_getElem?_getD, h]; rfl
theorem topAt_rng (l : List It) : ∀ i, -1 ≤ topAt l i ∧ topAt l i < i ∧ (0 < i → 0 ≤ topAt l i)
  | 0 => by simp [topAt]
  | i + 1 => by
    have := topAt_rng l i
    unfold topAt
    split
    · omega
    · rename_i h; omega
theorem topAt_best {l : List It} (hs : Srt l) : ∀ i, i ≤ l.length → ∀ j, j < i → (j : Int) ≠ topAt l i → beforeK (kAt l (topAt l i).toNat) (kAt l j) = true
  | 0, _, j, hj, _ => absurd hj (by omega)
  | i + 1, hi, j, hj, hne => by
    have hr := topAt_rng l i
    have ih := topAt_best hs i (by omega)
    unfold topAt at hne ⊢
    split
    · rename_i h
      rw [if_pos h] at hne
      rw [Int.toNat_natCast]
      have hji : j < i := by omega
      rcases h with h | h
      · omega
      · by_cases e : (j : Int) = topAt l i
        · rw [← e, Int.toNat_natCast] at h; exact h
        · exact befK_trans h (ih j hji e)
    · rename_i h
      rw [if_neg h] at hne
      by_cases e : j = i
      · subst e
        have hlt : (topAt l j).toNat < j := by omega
        have hkk : kAt l (topAt l j).toNat < kAt l j := by
          obtain ⟨x, hx⟩ := getSome (l := l) (i := (topAt l j).toNat) (by omega)
          obtain ⟨y, hy⟩ := getSome (l := l) (i := j) (by omega)
          rw [kAt_get hx, kAt_get hy]
          have := List.pairwise_iff_getElem.1 hs (topAt l j).toNat j (by omega) (by omega) hlt
          rw [getElem_of hx, getElem_of hy] at this
          exact this
        rcases befK_total (show ¬ kAt l (topAt l j).toNat = kAt l j by omega) with h2 | h2
        · exact h2
        · exact absurd (.inr h2) h
      · exact ih j (by omega) hne
theorem topL_nil : topL [] = -1 := rfl
theorem topL_rng {l : List It} (h : 0 < l.length) : 0 ≤ topL l ∧ topL l < l.length := by
  have := topAt_rng l l.length
  unfold topL; omega
theorem topL_neg {l : List It} (h : topL l < 0) : l = [] := by
  rcases Nat.eq_zero_or_pos l.length with e | e
  · exact List.eq_nil_of_length_eq_zero e
  · have := topL_rng e; omega
theorem split_at {α : Type} {l : List α} {i : Nat} {x : α} (h : l[i]? = some x) : l = l.take i ++ x :: l.drop (i + 1) := by
  have h1 := lt_of_get h
  conv => lhs; rw [← List.take_append_drop i l]
  rw [List.drop_eq_getElem_cons h1, getElem_of h]
theorem top_all {l : List It} (hs : Srt l) (hl : 0 < l.length) {it : It} (hit : l[(topL l).toNat]? = some it) : ∀ y ∈ l.take (topL l).toNat ++ l.drop ((topL l).toNat + 1), beforeK it.k y.k = true := by
  intro y hy
  have hr := topL_rng hl
  have key : ∀ j : Nat, l[j]? = some y → (j : Int) ≠ topL l → beforeK it.k y.k = true := fun j hj hne => by
    have := topAt_best hs l.length (Nat.le_refl _) j (lt_of_get hj) hne
    unfold topL at hit
    rw [kAt_get hit, kAt_get hj] at this
    exact this
  rcases List.mem_append.1 hy with hy | hy
  · obtain ⟨j, hj⟩ := List.getElem?_of_mem hy
    have hjl := lt_of_get hj
    rw [List.length_take] at hjl
    rw [List.getElem?_take_of_lt (by omega)] at hj
    exact key j hj (by omega)
  · obtain ⟨j, hj⟩ := List.getElem?_of_mem hy
    rw [List.getElem?_drop] at hj
    exact key _ hj (by omega)
theorem top_mid {L R : List It} {it : It} (hs : Srt (L ++ it :: R)) (hb : ∀ y ∈ L ++ R, beforeK it.k y.k = true) : topL (L ++ it :: R) = L.length := by
  have hl : 0 < (L ++ it :: R).length := by simp only [List.length_append, List.length_cons]; omega
  have hr := topL_rng hl
  obtain ⟨z, hz⟩ := getSome (l := L ++ it :: R) (i := (topL (L ++ it :: R)).toNat) (by omega)
  refine Classical.byContradiction fun hne => ?_
  have h1 : (L ++ it :: R)[L.length]? = some it := by rw [List.getElem?_append_right (Nat.le_refl _), Nat.sub_self]; rfl
  have h2 := topAt_best hs _ (Nat.le_refl _) L.length (by simp) (fun e => hne e.symm)
  rw [kAt_get h1] at h2
  unfold topL at hz
  rw [kAt_get hz] at h2
  have hzm : z ∈ L ++ R := by
    have hzi := hz
    rcases Nat.lt_or_ge (topL (L ++ it :: R)).toNat L.length with q | q
    · unfold topL at q
      rw [List.getElem?_append_left q] at hzi
      exact List.mem_append_left _ (List.mem_of_getElem? hzi)
    · unfold topL at q hne hr
      rw [List.getElem?_append_right q] at hzi
      obtain ⟨m, hm⟩ : ∃ m, (topAt (L ++ it :: R) (L ++ it :: R).length).toNat - L.length = m + 1 := ⟨(topAt (L ++ it :: R) (L ++ it :: R).length).toNat - L.length - 1, by omega⟩
      rw [hm, List.getElem?_cons_succ] at hzi
      exact List.mem_append_right _ (List.mem_of_getElem? hzi)
  rw [befK_asym (hb z hzm)] at h2
  cases h2

/-! ### what is a map -/
def tNode (g k v s a b : Int) : Node := ⟨1, g, k, v, s, a, b, 0, 0, 0, 0, 0, 0, 0, 0, 0⟩
inductive IsT (A : Ar) : Int → List It → Prop
  | nil : IsT A 0 []
  | node {r g a b : Int} {it : It} {L R : List It} : getA A r = some (tNode g it.k it.v ((L.length : Int) + R.length + 1) a b) → IsT A a L → IsT A b R → (∀ y ∈ L ++ R, beforeK it.k y.k = true) → Srt (L ++ it :: R) → IsT A r (L ++ it :: R)
theorem getA_0 (A : Ar) : getA A 0 = none := getA_neg (.inl (by decide))
theorem IsT.srt {A : Ar} {r : Int} {l : List It} (h : IsT A r l) : Srt l := by
  cases h with
  | nil => exact List.Pairwise.nil
  | node _ _ _ _ h => exact h
theorem IsT.zero {A : Ar} {l : List It} (h : IsT A 0 l) : l = [] := by
  cases h with
  | nil => rfl
  | node h1 => rw [getA_0] at h1; cases h1
theorem IsT.ne {A : Ar} {r : Int} {l : List It} (h : IsT A r l) (hr : ¬ r = 0) : ∃ g a b it L R, l = L ++ it :: R ∧ getA A r = some (tNode g it.k it.v ((L.length : Int) + R.length + 1) a b) ∧ IsT A a L ∧ IsT A b R ∧ (∀ y ∈ L ++ R, beforeK it.k y.k = true) ∧ Srt (L ++ it :: R) := by
  cases h with
  | nil => exact absurd rfl hr
  | node h1 h2 h3 h4 h5 => exact ⟨_, _, _, _, _, _, rfl, h1, h2, h3, h4, h5⟩
/-- how many keys a reference has, as its node tells -/
theorem IsT.size {A : Ar} {r : Int} {l : List It} (h : IsT A r l) : (getA A r = none → l.length = 0) ∧ ∀ x, getA A r = some x → x.s = l.length := by
  cases h with
  | nil => exact ⟨fun _ => rfl, fun x h => (by rw [getA_0] at h; cases h)⟩
  | node h1 => exact ⟨fun h => (by rw [h1] at h; cases h), fun x h => (by rw [h1] at h; cases h; simp [tNode]; omega)⟩

/-! ### the reference's rows -/
def rowF (A : Ar) : Nat → Int → Int → List It
  | 0, _, _ => []
  | k + 1, r, most => match getA A r with
    | none => []
    | some x => if most ≤ 0 then [] else rowF A k x.k0 (most - 1) ++ ⟨x.n, x.v⟩ :: rowF A k x.k1 (most - ((rowF A k x.k0 (most - 1)).length + 1))
theorem rowF_no {A : Ar} {k : Nat} {r most : Int} (h : getA A r = none ∨ most ≤ 0) : rowF A (k + 1) r most = [] := by
  rw [rowF]
  split
  · rfl
  · rename_i x hx
    rw [if_pos (h.resolve_left (by rw [hx]; intro e; cases e))]
theorem rowF_yes {A : Ar} {k : Nat} {r most : Int} {x : Node} (h : getA A r = some x) (hm : ¬ most ≤ 0) : rowF A (k + 1) r most = rowF A k x.k0 (most - 1) ++ ⟨x.n, x.v⟩ :: rowF A k x.k1 (most - ((rowF A k x.k0 (most - 1)).length + 1)) := by
  rw [rowF, h]; exact if_neg hm
theorem rowF_len (A : Ar) : ∀ (k : Nat) (r most : Int), 0 ≤ most → ((rowF A k r most).length : Int) ≤ most
  | 0, r, most, h => by simpa [rowF] using h
  | k + 1, r, most, h => by
    cases hx : getA A r with
    | none => rw [rowF_no (.inl hx)]; simpa using h
    | some x =>
      by_cases hm : most ≤ 0
      · rw [rowF_no (.inr hm)]; simpa using h
      · rw [rowF_yes hx hm]
        have h1 := rowF_len A k x.k0 (most - 1) (by omega)
        have h2 := rowF_len A k x.k1 (most - ((rowF A k x.k0 (most - 1)).length + 1)) (by omega)
        simp only [List.length_append, List.length_cons]
        omega
theorem rowF_isT {A : Ar} {r : Int} {l : List It} (h : IsT A r l) : ∀ (k : Nat) (most : Int), (l.length : Int) ≤ most → most < k → rowF A k r most = l := by
  induction h with
  | nil => intro k most h1 h2; cases k with
    | zero => rfl
    | succ k => exact rowF_no (.inl (getA_0 A))
  | @node r g a b it L R h1 h2 h3 h4 h5 ih1 ih2 =>
    intro k most hl hk
    simp only [List.length_append, List.length_cons] at hl
    cases k with
    | zero => omega
    | succ k =>
      rw [rowF_yes h1 (by omega)]
      have e1 := ih1 k (most - 1) (by omega) (by omega)
      simp only [tNode]
      rw [e1, ih2 k (most - ((L.length : Int) + 1)) (by omega) (by omega)]
theorem IsT.unique {A : Ar} {r : Int} {l m : List It} (h : IsT A r l) (h2 : IsT A r m) : l = m := by
  have h1 := rowF_isT h ((l.length + m.length) + 1) ((l.length + m.length : Nat) : Int) (by omega) (by omega)
  rw [rowF_isT h2 ((l.length + m.length) + 1) ((l.length + m.length : Nat) : Int) (by omega) (by omega)] at h1
  exact h1.symm

/-! ### is a reference the map of a row? -/
def isF (A : Ar) : Nat → Int → List It → Bool
  | 0, _, _ => false
  | k + 1, r, l => if topL l < 0 then decide (r = 0) else match getA A r with
    | none => false
    | some x => decide (x = tNode x.gen (l.getD (topL l).toNat it0).k (l.getD (topL l).toNat it0).v l.length x.k0 x.k1) && isF A k x.k0 (l.take (topL l).toNat) && isF A k x.k1 (l.drop ((topL l).toNat + 1))
theorem isF_nil (A : Ar) (k : Nat) (r : Int) : isF A (k + 1) r [] = decide (r = 0) := rfl
theorem isF_no {A : Ar} {k : Nat} {r : Int} {l : List It} (h : ¬ topL l < 0) (hg : getA A r = none) : isF A (k + 1) r l = false := by rw [isF, if_neg h, hg]
theorem isF_yes {A : Ar} {k : Nat} {r : Int} {l : List It} {x : Node} (h : ¬ topL l < 0) (hg : getA A r = some x) : isF A (k + 1) r l = (decide (x = tNode x.gen (l.getD (topL l).toNat it0).k (l.getD (topL l).toNat it0).v l.length x.k0 x.k1) && isF A k x.k0 (l.take (topL l).toNat) && isF A k x.k1 (l.drop ((topL l).toNat + 1))) := by rw [isF, if_neg h, hg]
theorem Srt.take {l : List It} (h : Srt l) (k : Nat) : Srt (l.take k) := List.Pairwise.sublist (List.take_sublist _ _) h
theorem Srt.drop {l : List It} (h : Srt l) (k : Nat) : Srt (l.drop k) := List.Pairwise.sublist (List.drop_sublist _ _) h
theorem isF_isT {A : Ar} : ∀ (k : Nat) (r : Int) (l : List It), Srt l → l.length < k → (isF A k r l = true ↔ IsT A r l)
  | 0, _, _, _, h => absurd h (by omega)
  | k + 1, r, l, hs, hk => by
    by_cases ht : topL l < 0
    · obtain rfl := topL_neg ht
      rw [isF_nil, decide_eq_true_iff]
      constructor
      · rintro rfl; exact .nil
      · intro h
        refine Classical.byContradiction fun hr => ?_
        obtain ⟨_, _, _, _, _, _, e, _⟩ := h.ne hr
        simp at e
    · have hl : 0 < l.length := by
        rcases Nat.eq_zero_or_pos l.length with e | e
        · rw [List.eq_nil_of_length_eq_zero e] at ht; exact absurd (show topL [] < 0 by decide) ht
        · exact e
      have hr := topL_rng hl
      obtain ⟨it, hit⟩ := getSome (l := l) (i := (topL l).toNat) (by omega)
      have hgd : l.getD (topL l).toNat it0 = it := by rw [List.getD_eq_getElem?_getD, hit]; rfl
      have hsp := split_at hit
      cases hg : getA A r with
      | none =>
        rw [isF_no ht hg]
        constructor
        · intro h; cases h
        · intro h
          have := h.size.1 hg
          omega
      | some x =>
        rw [isF_yes ht hg, hgd, Bool.and_eq_true, Bool.and_eq_true, decide_eq_true_iff, isF_isT k x.k0 _ (hs.take _) (by rw [List.length_take]; omega), isF_isT k x.k1 _ (hs.drop _) (by rw [List.length_drop]; omega)]
        have hlen : (((l.take (topL l).toNat).length : Int) + (l.drop ((topL l).toNat + 1)).length + 1) = l.length := by rw [List.length_take, List.length_drop]; omega
        constructor
        · rintro ⟨⟨h1, h2⟩, h3⟩
          rw [hsp]
          refine IsT.node (g := x.gen) (a := x.k0) (b := x.k1) ?_ h2 h3 (top_all hs hl hit) (hsp ▸ hs)
          rw [hg, hlen]
          exact congrArg some h1
        · intro h
          obtain ⟨g, a, b, jt, L, R, e, e1, e2, e3, e4, e5⟩ := h.ne (fun e => by rw [e, getA_0] at hg; cases hg)
          have htop : topL l = L.length := by rw [e]; exact top_mid e5 e4
          rw [htop, Int.toNat_natCast] at hit ⊢
          have ej : jt = it := by
            rw [e, List.getElem?_append_right (Nat.le_refl _), Nat.sub_self] at hit
            exact Option.some.inj hit
          rw [hg] at e1
          have ex := Option.some.inj e1
          rw [ej] at ex
          have el : (L.length : Int) + R.length + 1 = l.length := by rw [e]; simp; omega
          have t1 : l.take L.length = L := by rw [e, List.take_left]
          have t2 : l.drop (L.length + 1) = R := by rw [e, List.drop_append]; simp
          rw [t1, t2]
          refine ⟨⟨?_, by rw [ex]; exact e2⟩, by rw [ex]; exact e3⟩
          rw [ex, el]
          rfl
end Go.Proofs.Ytjafbffehmombaa
