/-
  treap.Right, and the reference's rows.
-/
import Derived.Test.YtjafbffehmombaaTreapMay
import Derived.Test.YtjafbffehmombaaMixRef
set_option linter.unusedVariables false
set_option linter.unusedSimpArgs false
namespace Go.Proofs.Ytjafbffehmombaa
open Go Go.XL

/-- are all those maps'? -/
noncomputable def allMaps (A : Ar) (l : List Int) : Bool := aokB A && l.all (isMapB A)
theorem may_neg {A : Ar} {r : Int} (hA : AOk A) (h : mayF A 201 r bnd0 200 < 0) : isMapB A r = false := isMapB_no (fun e => by have := (isMap_iff hA).2 e; omega)
theorem may_pos {A : Ar} {r : Int} (hA : AOk A) (h : ¬ mayF A 201 r bnd0 200 < 0) : isMapB A r = true := isMapB_yes ((isMap_iff hA).1 (by omega))
theorem all_take {α : Type} {p : α → Bool} {l : List α} {i : Nat} {x : α} (h : l[i]? = some x) (hp : (l.take i).all p = true) (hx : p x = true) : (l.take (i + 1)).all p = true := by
  rw [List.take_add_one, h, List.all_append, hp]; simp [hx]
theorem all_no {α : Type} {p : α → Bool} {l : List α} {i : Nat} {x : α} (h : l[i]? = some x) (hx : p x = false) : l.all p = false := by
  rw [List.all_eq_false]; exact ⟨x, List.mem_of_getElem? h, by rw [hx]; simp⟩
theorem isMapB_ok (A : Ar) (r : Int) : (aokB A && isMapB A r) = isMapB A r := by
  cases h : isMapB A r with
  | false => exact Bool.and_false _
  | true => rw [aokB_yes ((isMapB_iff A r).1 h).1]; rfl
/-! ### the reference -/
def itV (x : It) : List Value := [.int .i64 x.k, .int .i64 x.v]
end Go.Proofs.Ytjafbffehmombaa
