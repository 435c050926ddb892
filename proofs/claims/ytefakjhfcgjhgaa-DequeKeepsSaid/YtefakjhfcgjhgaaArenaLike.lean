/-
  Two arenas, two rows of numbers, held against each other.
-/
import Derived.Test.YtefakjhfcgjhgaaArenaMakes
set_option linter.unusedVariables false
set_option linter.unusedSimpArgs false
namespace Go.Proofs.Ytefakjhfcgjhgaa
open Go Go.XL

def likeB (A B : Ar) : Bool := decide (A.nodes = B.nodes ∧ A.free = B.free)
theorem upto_eq {α : Type} {l m : List α} (hl : l.length = m.length) (h : ∀ j : Nat, j < l.length → l[j]? = m[j]?) : l = m := by
  apply List.ext_getElem? ; intro k
  by_cases hk : k < l.length
  · exact h k hk
  · rw [List.getElem?_eq_none (by omega), List.getElem?_eq_none (by omega)]

end Go.Proofs.Ytefakjhfcgjhgaa
