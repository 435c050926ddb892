/-
  Rows that are put together key by key, in plain Lean; how many keys are so.
-/
import Derived.Test.YtjafbffehmombaaOrder
set_option linter.unusedVariables false
set_option linter.unusedSimpArgs false
namespace Go.Proofs.Ytjafbffehmombaa
open Go Go.XL

/-- a row put together of keys -/
def rowN (f : Int → Int) (g : Int → Int) (most : Nat) (l : List Int) : Nat → List It
  | 0 => []
  | i + 1 => if i < most then putR (rowN f g most l i) (f (l.getD i 0)) (g i) else rowN f g most l i
theorem rowN_put {f g : Int → Int} {most i : Nat} {l : List Int} {x : Int} (h : l[i]? = some x) (hi : i < most) : rowN f g most l (i + 1) = putR (rowN f g most l i) (f x) (g i) := by
  rw [rowN, if_pos hi, List.getD_eq_getElem?_getD, h]; rfl
theorem rowN_stay {f g : Int → Int} {most i : Nat} {l : List Int} (hi : ¬ i < most) : rowN f g most l (i + 1) = rowN f g most l i := by rw [rowN, if_neg hi]
theorem rowN_srt (f g : Int → Int) (most : Nat) (l : List Int) : ∀ i, Srt (rowN f g most l i)
  | 0 => List.Pairwise.nil
  | i + 1 => by
    rw [rowN]
    split
    · exact putR_ok (rowN_srt f g most l i) _ _
    · exact rowN_srt f g most l i
theorem rowN_len (f g : Int → Int) (most : Nat) (l : List Int) : ∀ i, (rowN f g most l i).length ≤ most ∧ (rowN f g most l i).length ≤ i
  | 0 => by simp [rowN]
  | i + 1 => by
    have h := rowN_len f g most l i
    rw [rowN]
    split
    · have := putR_len (rowN f g most l i) (f (l.getD i 0)) (g i); omega
    · omega
theorem rowN_all {f g : Int → Int} {most : Nat} {l : List Int} {P : It → Prop} (hl : ∀ x ∈ l, ∀ i : Nat, i < most → P ⟨f x, g i⟩) : ∀ i, i ≤ l.length → ∀ z ∈ rowN f g most l i, P z
  | 0, _ => by simp [rowN]
  | i + 1, hi => by
    intro z hz
    obtain ⟨x, hx⟩ := getSome (l := l) (i := i) (by omega)
    by_cases q : i < most
    · rw [rowN_put hx q] at hz
      rcases (putR_mem (rowN_srt f g most l i)).1 hz with h | h
      · rw [h]; exact hl x (List.mem_of_getElem? hx) i q
      · exact rowN_all hl i (by omega) z h.1
    · rw [rowN_stay q] at hz
      exact rowN_all hl i (by omega) z hz
/-- is a key there? -/
def hasK (l : List It) (key : Int) : Bool := l.any fun x => decide (x.k = key)
theorem hasK_iff {l : List It} {key : Int} : hasK l key = true ↔ ∃ y ∈ l, y.k = key := by simp [hasK]
theorem hasK_no {l : List It} {key : Int} (h : ∀ y ∈ l, ¬ y.k = key) : hasK l key = false := by
  rw [Bool.eq_false_iff]; intro e; obtain ⟨y, hy, e⟩ := hasK_iff.1 e; exact h y hy e
theorem cnt_split (key : Int) (q : It → Bool) : ∀ l : List It, (l.filter q).length = ((l.filter fun x => decide (x.k < key)).filter q).length + ((l.filter fun x => decide (key < x.k)).filter q).length + ((l.filter fun x => decide (x.k = key)).filter q).length
  | [] => rfl
  | x :: l => by
    have ih := cnt_split key q l
    simp only [List.filter_cons]
    rcases Int.lt_trichotomy x.k key with h | h | h
    · rw [decide_eq_true h, decide_eq_false (show ¬ key < x.k by omega), decide_eq_false (show ¬ x.k = key by omega)]
      simp only [if_true, Bool.false_eq_true, if_false, List.filter_cons]
      cases q x <;> simp only [if_true, Bool.false_eq_true, if_false, List.length_cons] <;> omega
    · rw [decide_eq_false (show ¬ x.k < key by omega), decide_eq_false (show ¬ key < x.k by omega), decide_eq_true h]
      simp only [if_true, Bool.false_eq_true, if_false, List.filter_cons]
      cases q x <;> simp only [if_true, Bool.false_eq_true, if_false, List.length_cons] <;> omega
    · rw [decide_eq_false (show ¬ x.k < key by omega), decide_eq_true h, decide_eq_false (show ¬ x.k = key by omega)]
      simp only [if_true, Bool.false_eq_true, if_false, List.filter_cons]
      cases q x <;> simp only [if_true, Bool.false_eq_true, if_false, List.length_cons] <;> omega
theorem cnt_key (key : Int) (q : Int → Bool) : ∀ {l : List It}, Srt l → ((l.filter fun x => decide (x.k = key)).filter fun x => q x.k).length = if hasK l key && q key then 1 else 0
  | [], _ => rfl
  | x :: l, h => by
    have hs := List.pairwise_cons.1 h
    have ih := cnt_key key q hs.2
    simp only [List.filter_cons]
    by_cases e : x.k = key
    · have h0 : hasK (x :: l) key = true := hasK_iff.2 ⟨x, by simp, e⟩
      have h1 : hasK l key = false := hasK_no fun y hy e2 => by have := hs.1 y hy; omega
      rw [h1] at ih
      rw [h0, decide_eq_true e, if_pos rfl, List.filter_cons, e]
      simp only [Bool.false_and, Bool.false_eq_true, if_false] at ih
      cases q key with
      | true => simp only [if_true, List.length_cons, ih, Bool.true_and]
      | false => simp only [Bool.false_eq_true, if_false, ih, Bool.and_false]
    · have h0 : hasK (x :: l) key = hasK l key := by simp [hasK, e]
      rw [h0, decide_eq_false e, if_neg (by simp), ih]
theorem putR_cnt {l : List It} (hs : Srt l) (key v : Int) (q : Int → Bool) : ((putR l key v).filter fun x => q x.k).length + (if hasK l key && q key then 1 else 0) = (l.filter fun x => q x.k).length + (if q key then 1 else 0) := by
  have h1 := cnt_split key (fun x => q x.k) l
  have h2 := cnt_key key q hs
  rw [putR_srt hs, List.filter_append, List.filter_cons, List.length_append]
  generalize (if (hasK l key && q key) = true then 1 else 0) = z at h2 ⊢
  cases q key <;> simp only [Bool.false_eq_true, if_false, if_true, List.length_cons] <;> omega
theorem putR_size {l : List It} (hs : Srt l) (key v : Int) : (putR l key v).length = l.length + (if hasK l key then 0 else 1) := by
  have h := putR_cnt hs key v (fun _ => true)
  simp only [Bool.and_true, if_true] at h
  rw [List.filter_eq_self.2 (fun _ _ => rfl), List.filter_eq_self.2 (fun _ _ => rfl)] at h
  cases hk : hasK l key <;> rw [hk] at h <;> simp only [Bool.false_eq_true, if_false, if_true] at h ⊢ <;> omega
theorem putR_rank {l : List It} (hs : Srt l) (key v other : Int) : ((putR l key v).filter fun x => decide (x.k < other)).length = (l.filter fun x => decide (x.k < other)).length + (if key < other ∧ hasK l key = false then 1 else 0) := by
  have h := putR_cnt hs key v (fun k => decide (k < other))
  by_cases q : key < other
  · simp only [decide_eq_true q, Bool.and_true, if_true] at h
    cases hk : hasK l key <;> rw [hk] at h
    · rw [if_pos ⟨q, rfl⟩]; simpa using h
    · rw [if_neg (fun e => by cases e.2)]; simpa using h
  · simp only [decide_eq_false q, Bool.and_false, Bool.false_eq_true, if_false] at h
    rw [if_neg (fun e => q e.1)]; exact h
end Go.Proofs.Ytjafbffehmombaa
