/-
  What is got of an arena; a new arena; copies.
-/
import Derived.Test.YtjafbffehmombaaArenaRef
set_option linter.unusedVariables false
set_option linter.unusedSimpArgs false
namespace Go.Proofs.Ytjafbffehmombaa
open Go Go.XL

/-- the node of a reference, if there is one -/
def getA (A : Ar) (r : Int) : Option Node :=
  if placeR r < 0 then none else
  match A.nodes[(placeR r).toNat]? with
  | none => none
  | some x => if x.kind = 0 ∨ ¬ x.gen = genR r then none else some x
def getV (A : Ar) (r : Int) : Value := match getA A r with
  | some x => .tuple #[x.val, .int .i64 0]
  | none => .tuple #[(bareN 0).val, .int .i64 4]
theorem getA_neg {A : Ar} {r : Int} (h : placeR r < 0 ∨ A.nodes.length ≤ placeR r) : getA A r = none := by
  unfold getA
  split
  · rfl
  · rw [List.getElem?_eq_none (by omega)]
theorem getA_at {A : Ar} {r : Int} {x : Node} (h : 0 ≤ placeR r) (hx : A.nodes[(placeR r).toNat]? = some x) : getA A r = if x.kind = 0 ∨ ¬ x.gen = genR r then none else some x := by
  unfold getA
  rw [if_neg (by omega), hx]
theorem getV_no {A : Ar} {r : Int} (h : getA A r = none) : getV A r = .tuple #[(bareN 0).val, .int .i64 4] := by rw [getV, h]
theorem getV_yes {A : Ar} {r : Int} {x : Node} (h : getA A r = some x) : getV A r = .tuple #[x.val, .int .i64 0] := by rw [getV, h]

/-! ### copies -/
/-- an arena, whole, in memory -/
def ArV (w : World) (v : Value) (A : Ar) : Prop := ∃ na fa nc fc, v = arV na fa nc fc A ∧ A.nodes.length ≤ nc ∧ A.free.length ≤ fc ∧ ArR w na fa A
theorem ArV.sub {w w' v A} (h : ArV w v A) (s : Sub w w') : ArV w' v A := by
  obtain ⟨na, fa, nc, fc, h1, h2, h3, h4⟩ := h
  exact ⟨na, fa, nc, fc, h1, h2, h3, h4.sub s⟩

end Go.Proofs.Ytjafbffehmombaa
