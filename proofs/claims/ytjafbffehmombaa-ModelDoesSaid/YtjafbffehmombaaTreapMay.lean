/-
  Which references are maps', walked.
-/
import Derived.Test.YtjafbffehmombaaTreapMayP
set_option linter.unusedVariables false
set_option linter.unusedSimpArgs false
namespace Go.Proofs.Ytjafbffehmombaa
open Go Go.XL

def frC (na fa : Option Addr) (nc fc : Nat) (A : Ar) (bad : Int) : List Value := [.slice na A.nodes.length nc, .slice fa A.free.length fc, .int .i64 bad]
def bare1 (y : Node) (a b : Int) : Node := ⟨y.kind, y.gen, y.n, y.v, y.s, a, b, 0, 0, 0, 0, 0, 0, 0, 0, 0⟩
theorem bare1_iff {y : Node} (h : y.kind = 1) : bare1 y y.k0 y.k1 = y ↔ tBare y = y := by
  unfold bare1 tBare tNode; rw [h]
theorem row_pre {w : World} {b : Nat} {xs ys : List Value} {e : TypeId} (h : Has w b (xs ++ ys) e) : Row w ⟨b, 0, none⟩ xs := fun i v hv => h.row i v (by rw [List.getElem?_append_left (lt_of_get hv)]; exact hv)
def frA (na fa : Option Addr) (nc fc : Nat) (A : Ar) : List Value := [.slice na A.nodes.length nc, .slice fa A.free.length fc]
end Go.Proofs.Ytjafbffehmombaa
