/-
  What is got of a reference, and its place as the reference tells it; small laws that many proofs want.
-/
import Derived.Test.YtjafbffehmombaaArenaMakes
import Derived.Test.YtjafbffehmombaaFt
set_option linter.unusedVariables false
set_option linter.unusedSimpArgs false
namespace Go.Proofs.Ytjafbffehmombaa
open Go Go.XL

theorem getA_rng {A : Ar} {r : Int} {x : Node} (h : getA A r = some x) : 0 ≤ placeR r ∧ placeR r < A.nodes.length := by
  unfold getA at h
  split at h
  · cases h
  · split at h
    · cases h
    · rename_i y hy
      have := lt_of_get hy
      omega
theorem getA_nok {A : Ar} {r : Int} {x : Node} (h : getA A r = some x) : x ∈ A.nodes := by
  unfold getA at h
  split at h
  · cases h
  · split at h
    · cases h
    · rename_i y hy
      split at h
      · cases h
      · cases h; exact List.mem_of_getElem? hy
theorem getA_get {A : Ar} {r : Int} {x : Node} (h : getA A r = some x) : A.nodes[(placeR r).toNat]? = some x ∧ ¬ x.kind = 0 := by
  unfold getA at h
  split at h
  · cases h
  · split at h
    · cases h
    · rename_i y hy
      split at h
      · cases h
      · rename_i hn; cases h; exact ⟨hy, fun e => hn (.inl e)⟩
def atA (A : Ar) (r : Int) : Int := match getA A r with
  | some _ => placeR r
  | none => -1
theorem atA_no {A : Ar} {r : Int} (h : getA A r = none) : atA A r = -1 := by rw [atA, h]
theorem atA_yes {A : Ar} {r : Int} {x : Node} (h : getA A r = some x) : atA A r = placeR r := by rw [atA, h]
theorem placeR_not {r : Int} (h : ¬ nodeR r) : placeR r = -1 := if_neg h
theorem add_add (a : Addr) (i j : Nat) : (a.add i).add j = a.add (i + j) := by
  unfold Addr.add
  by_cases hi : i = 0
  · subst hi; simp
  · by_cases hj : j = 0
    · subst hj; simp
    · rw [if_neg hj, if_neg hi, if_neg (by omega), Nat.add_assoc]
theorem kids_row {w : World} {ad : Addr} {x : Node} (h : Row w ad x.cells) : Row w (ad.add 5) (x.kids.map u6) := by
  intro i v hv
  have hi : i < 9 := by have := lt_of_get hv; simpa [Node.kids] using this
  have e : (ad.add 5).add i = ad.add (5 + i) := by rw [add_add]
  rw [e]
  refine h (5 + i) v ?_
  rcases i with _|_|_|_|_|_|_|_|_|i
  all_goals first | exact hv | omega
theorem atA_form (A : Ar) (r : Int) : (atA A r < 0 → getA A r = none) ∧ (¬ atA A r < 0 → ∃ x, getA A r = some x ∧ atA A r = placeR r) := by
  cases h : getA A r with
  | none => rw [atA_no h]; exact ⟨fun _ => rfl, fun h => absurd h (by omega)⟩
  | some x => rw [atA_yes h]; have := getA_rng h; exact ⟨fun h => absurd h (by omega), fun _ => ⟨x, rfl, rfl⟩⟩
theorem ext_ints {l m : List Int} {n : Nat} (hl : l.length = n) (hm : m.length = n) (h : ∀ j, j < n → l[j]? = m[j]?) : l = m := by
  apply List.ext_getElem?
  intro j
  by_cases hj : j < n
  · exact h j hj
  · rw [List.getElem?_eq_none (by omega), List.getElem?_eq_none (by omega)]
theorem getV_form2 (A : Ar) (r : Int) : ∃ (y : Node) (e : Int), getV A r = .tuple #[y.val, .int .i64 e] ∧ (∀ x, getA A r = some x → y = x ∧ e = 0) ∧ (getA A r = none → y = bareN 0 ∧ e = 4) := by
  cases h : getA A r with
  | none => exact ⟨bareN 0, 4, getV_no h, fun x h => (by cases h), fun _ => ⟨rfl, rfl⟩⟩
  | some x => exact ⟨x, 0, getV_yes h, fun y h => (by cases h; exact ⟨rfl, rfl⟩), fun h => (by cases h)⟩
theorem make_bad {A B : Ar} {x : Node} {r e : Int} (hm : ¬ mayMake A x) (h0 : e = 0 → mayMake A x ∧ 0 < A.free.length ∧ B = makeA A x ∧ r = makeR A) (h1 : ¬ e = 0 → B = ar0 ∧ r = 0 ∧ (¬ mayMake A x ∧ e = 1 ∨ mayMake A x ∧ A.free.length = 0 ∧ e = 2)) : e = 1 ∧ B.nodes.length = 0 ∧ r = 0 := by
  by_cases he : e = 0
  · exact absurd (h0 he).1 hm
  · obtain ⟨hB, hr, h | h⟩ := h1 he
    · exact ⟨h.2, by rw [hB]; rfl, hr⟩
    · exact absurd h.1 hm
theorem make_empty {A B : Ar} {x : Node} {r e : Int} (hm : mayMake A x) (hp : A.free.length = 0) (h0 : e = 0 → mayMake A x ∧ 0 < A.free.length ∧ B = makeA A x ∧ r = makeR A) (h1 : ¬ e = 0 → B = ar0 ∧ r = 0 ∧ (¬ mayMake A x ∧ e = 1 ∨ mayMake A x ∧ A.free.length = 0 ∧ e = 2)) : e = 2 ∧ B.nodes.length = 0 ∧ r = 0 := by
  by_cases he : e = 0
  · have := (h0 he).2.1; omega
  · obtain ⟨hB, hr, h | h⟩ := h1 he
    · exact absurd hm h.1
    · exact ⟨h.2.2, by rw [hB]; rfl, hr⟩
theorem make_good {A B : Ar} {x : Node} {r e : Int} (hm : mayMake A x) (hp : 0 < A.free.length) (h0 : e = 0 → mayMake A x ∧ 0 < A.free.length ∧ B = makeA A x ∧ r = makeR A) (h1 : ¬ e = 0 → B = ar0 ∧ r = 0 ∧ (¬ mayMake A x ∧ e = 1 ∨ mayMake A x ∧ A.free.length = 0 ∧ e = 2)) : e = 0 ∧ B = makeA A x ∧ r = makeR A := by
  by_cases he : e = 0
  · exact ⟨he, (h0 he).2.2⟩
  · obtain ⟨hB, hr, h | h⟩ := h1 he
    · exact absurd hm h.1
    · omega
theorem getA_same {A B : Ar} {r : Int} (h : A.nodes[(placeR r).toNat]? = B.nodes[(placeR r).toNat]?) : getA A r = getA B r := by unfold getA; rw [h]
theorem idx_map {α β : Type} {l : List α} {f : α → β} {j : Nat} (h : j < l.length) : 0 ≤ (j : Int) ∧ (j : Int) < ((l.map f).length : Nat) := by rw [List.length_map]; omega
theorem place_node {r : Int} (h : 0 ≤ placeR r) : placeR r = r % 65536 - 1 := by
  unfold placeR at *
  split at h
  · rw [if_pos ‹_›]
  · omega
theorem bne_iff {p q : Prop} [Decidable p] [Decidable q] (h : p ↔ q) : (!(decide p == decide q)) = false := by cases hp : decide p <;> cases hq : decide q <;> simp_all
end Go.Proofs.Ytjafbffehmombaa
