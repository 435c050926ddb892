/-
  The package ref and its reference: places, generations, which references may be.
-/
import Derived.Test.YtjafbffehmombaaFacts
set_option linter.unusedVariables false
set_option linter.unusedSimpArgs false
namespace Go.Proofs.Ytjafbffehmombaa
open Go Go.XL

def U64 (r : Int) : Prop := 0 ≤ r ∧ r < 18446744073709551616
def I64 (r : Int) : Prop := -9223372036854775808 ≤ r ∧ r ≤ 9223372036854775807
theorem tmodE {a b : Int} (h : 0 ≤ a) : a.tmod b = a % b := Int.tmod_eq_emod_of_nonneg h
theorem tdivE {a b : Int} (h : 0 ≤ a) : a.tdiv b = a / b := Int.tdiv_eq_ediv_of_nonneg h

/-- a reference that may be -/
def rightR (r : Int) : Bool := decide (r = 0 ∨ 1 ≤ r % 65536 ∧ r % 65536 ≤ 512 ∧ r / 65536 ≤ 1048576)
/-- of a node: its place, its generation -/
def nodeR (r : Int) : Prop := ¬ r = 0 ∧ rightR r = true
instance (r : Int) : Decidable (nodeR r) := inferInstanceAs (Decidable (_ ∧ _))
def placeR (r : Int) : Int := if nodeR r then r % 65536 - 1 else -1
def genR (r : Int) : Int := if nodeR r then r / 65536 else 0
def isR (p g : Int) : Bool := decide (0 ≤ p ∧ p < 512 ∧ 0 ≤ g ∧ g ≤ 1048576)
def ofR (p g : Int) : Int := g * 65536 + p + 1

theorem rightR_iff (r : Int) : rightR r = true ↔ (r = 0 ∨ 1 ≤ r % 65536 ∧ r % 65536 ≤ 512 ∧ r / 65536 ≤ 1048576) := by
  unfold rightR; exact decide_eq_true_iff
theorem nodeR_iff (r : Int) : nodeR r ↔ (¬ r = 0 ∧ 1 ≤ r % 65536 ∧ r % 65536 ≤ 512 ∧ r / 65536 ≤ 1048576) := by
  unfold nodeR; rw [rightR_iff]
  constructor
  · rintro ⟨h1, h2⟩; exact ⟨h1, h2.resolve_left h1⟩
  · rintro ⟨h1, h2⟩; exact ⟨h1, .inr h2⟩

theorem isR_iff (p g : Int) : isR p g = true ↔ 0 ≤ p ∧ p < 512 ∧ 0 ≤ g ∧ g ≤ 1048576 := by unfold isR; exact decide_eq_true_iff
/-! ### the reference -/
/-- the reference's generation; -1: none -/
def gen3 (r : Int) : Int := if r % 65536 = 0 ∨ r % 65536 > 512 ∨ r / 65536 > 1048576 then -1 else r / 65536
theorem ofR_U64 {p g : Int} (h : isR p g = true) : U64 (ofR p g) := by
  have hp := (isR_iff p g).1 h
  unfold U64 ofR; omega
theorem ofR_node {p g : Int} (h : isR p g = true) : nodeR (ofR p g) := by
  have hp := (isR_iff p g).1 h
  rw [nodeR_iff]; unfold ofR; omega
theorem placeR_of {p g : Int} (h : isR p g = true) : placeR (ofR p g) = p := by
  have hp := (isR_iff p g).1 h
  rw [placeR, if_pos (ofR_node h)]; unfold ofR; omega
theorem genR_of {p g : Int} (h : isR p g = true) : genR (ofR p g) = g := by
  have hp := (isR_iff p g).1 h
  rw [genR, if_pos (ofR_node h)]; unfold ofR; omega

theorem tmod_neg' (p m : Int) (h : p < 0) : p.tmod m = -((-p) % m) := by
  rw [← tmodE (a := -p) (by omega), Int.neg_tmod, Int.neg_neg]
theorem norm_mod (p m : Int) (hm : 0 < m) : -m < p.tmod m ∧ p.tmod m < m ∧ (p.tmod m + m).tmod m = p % m := by
  by_cases h : 0 ≤ p
  · have h1 := Int.emod_nonneg p (show m ≠ 0 by omega)
    have h2 := Int.emod_lt_of_pos p hm
    rw [tmodE h, tmodE (by omega), Int.add_emod_right, Int.emod_emod]
    omega
  · have h1 := Int.emod_nonneg (-p) (show m ≠ 0 by omega)
    have h2 := Int.emod_lt_of_pos (-p) hm
    rw [tmod_neg' p m (by omega), tmodE (by omega)]
    refine ⟨by omega, by omega, ?_⟩
    rw [Int.add_emod_right]
    have h3 := Int.emod_add_mul_ediv (-p) m
    have h4 : p = -((-p) % m) + m * (-((-p) / m)) := by rw [Int.mul_neg]; omega
    conv => rhs; rw [h4]
    rw [Int.add_mul_emod_self_left]

end Go.Proofs.Ytjafbffehmombaa
