/-
  The reference of the ordered maps: rows, whether a reference is a row's map, which references are maps'.
-/
import Derived.Test.YtdmaogopibljoaaTreapRight
set_option linter.unusedVariables false
set_option linter.unusedSimpArgs false
namespace Go.Proofs.Ytdmaogopibljoaa
open Go Go.XL

theorem slDrop {w : World} {a : Option Addr} {sz : Nat} {rows : List (List Value)} (h : Sl w a sz rows) (k : Nat) {c : Nat} (hc : rows.length ≤ c) : Sl w (if c = k then a else a.map (·.add (k * sz))) sz (rows.drop k) := by
  by_cases e : c = k
  · rw [if_pos e, List.drop_eq_nil_of_le (by omega)]; exact Sl.nil _ _ _
  · rw [if_neg e]
    refine ⟨fun hne => ?_, fun i r hr => ?_⟩
    · have := h.some (by intro e2; rw [e2] at hne; simp at hne)
      cases a with
      | none => simp at this
      | some x => rfl
    · rw [List.getElem?_drop] at hr
      have h1 := h.row (k + i) r hr
      have := h.some (by intro e2; rw [e2] at hr; simp at hr)
      cases a with
      | none => simp at this
      | some x =>
        simp only [Option.map_some, Option.getD_some] at h1 ⊢
        rw [add_add, ← Nat.add_mul]
        exact h1
theorem srt_iff {l : List It} : Srt l ↔ ∀ i, i + 1 < l.length → kAt l i < kAt l (i + 1) := by
  have kk : ∀ i (h : i < l.length), kAt l i = l[i].k := fun i h => kAt_get (List.getElem?_eq_getElem h)
  constructor
  · intro h i hi
    rw [kk i (by omega), kk (i + 1) hi]
    exact List.pairwise_iff_getElem.1 h i (i + 1) (by omega) hi (by omega)
  · intro h
    refine List.pairwise_iff_getElem.2 fun i j hi hj hij => ?_
    have key : ∀ d, i + 1 + d < l.length → kAt l i < kAt l (i + 1 + d) := by
      intro d
      induction d with
      | zero => intro hd; exact h i hd
      | succ d ih => intro hd; have h1 := ih (by omega); have h2 := h (i + 1 + d) hd; rw [show i + 1 + d + 1 = i + 1 + (d + 1) by omega] at h2; omega
    have := key (j - i - 1) (by omega)
    rw [show i + 1 + (j - i - 1) = j by omega, kk i hi, kk j hj] at this
    exact this
noncomputable def srtB (l : List It) : Bool := @decide (Srt l) (Classical.propDecidable _)
theorem srtB_iff (l : List It) : srtB l = true ↔ Srt l := by unfold srtB; exact @decide_eq_true_iff _ (Classical.propDecidable _)
theorem srtB_no {l : List It} (h : ¬ Srt l) : srtB l = false := by rw [Bool.eq_false_iff]; exact fun e => h ((srtB_iff l).1 e)
theorem slTakeM {α : Type} {w : World} {a : Option Addr} {sz : Nat} {f : α → List Value} {l : List α} (h : Sl w a sz (l.map f)) (k : Nat) : Sl w a sz ((l.take k).map f) := by rw [List.map_take]; exact h.take k
theorem slDropM {α : Type} {w : World} {a : Option Addr} {sz : Nat} {f : α → List Value} {l : List α} (h : Sl w a sz (l.map f)) (k : Nat) {c : Nat} (hc : l.length ≤ c) : Sl w (if c = k then a else a.map (·.add (k * sz))) sz ((l.drop k).map f) := by rw [List.map_drop]; exact slDrop h k (by rw [List.length_map]; exact hc)
noncomputable def refRightB (A : Ar) (r : Int) : Bool := isMapB A r
end Go.Proofs.Ytdmaogopibljoaa
