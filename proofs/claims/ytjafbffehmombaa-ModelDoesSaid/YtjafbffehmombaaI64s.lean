/-
  An argument that is a row of numbers, opened.
-/
import Derived.Test.YtjafbffehmombaaArenaLaws
set_option linter.unusedVariables false
set_option linter.unusedSimpArgs false
namespace Go.Proofs.Ytjafbffehmombaa
open Go Go.XL

section
variable {H : Type} {enc : TypeId × Value → H} {W : World} {base : Nat} {sp : Nat → Bool} {held : Bool} {v : Value} {d : DataW H} {ps : List MemPlace} {r : Reach} {b : Nat}
set_option maxRecDepth 100000 in
theorem open_i64s (hok : Value.okWide Try.prog W r b 23 v) (h : DataW.Trod enc Try.prog W base sp held 23 v d ps) : ∃ (a : Option Addr) (l : List Int) (c : Nat), v = .slice a l.length c ∧ l.length ≤ c ∧ c ≤ maxLen ∧ Sl W a 1 (l.map fun x => [i6 x]) ∧ ∀ x ∈ l, I64 x :=
  open_sl (fun x => [i6 x]) I64 sl23 rfl rfl fit_int hok h
end
end Go.Proofs.Ytjafbffehmombaa
