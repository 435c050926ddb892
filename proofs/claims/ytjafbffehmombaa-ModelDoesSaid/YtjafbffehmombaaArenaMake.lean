/-
  New arenas, what is made, what is dropped.
-/
import Derived.Test.YtjafbffehmombaaArenaGet
set_option linter.unusedVariables false
set_option linter.unusedSimpArgs false
namespace Go.Proofs.Ytjafbffehmombaa
open Go Go.XL

def ar0 : Ar := ⟨[], []⟩
def arV0 : Value := .agg #[.slice none 0 0, .slice none 0 0]
/-- the first i of the places that are free in a new arena -/
def newFree (n i : Nat) : List Int := (List.range i).map fun (j : Nat) => (n : Int) - 1 - j
def newA (n : Nat) : Ar := ⟨List.replicate n (bareN 0), newFree n n⟩
theorem newFree_succ (n i : Nat) : newFree n (i + 1) = newFree n i ++ [(n : Int) - 1 - i] := by
  simp [newFree, List.range_succ]
theorem newFree_len (n i : Nat) : (newFree n i).length = i := by simp [newFree]

/-- what the new arena reads is new, or was read of the old one -/
def ArI (w w' : World) (na fa : Option Addr) (A : Ar) (na' fa' : Option Addr) (A' : Ar) : Prop :=
  ∀ N : Nat → Prop, (∀ k, N k → k < w.heap.size) → Imm N (fun u => ArR u na fa A) w → Imm N (fun u => ArR u na' fa' A') w'
theorem ArI.now {w w' na fa A na' fa' A'} (h : ArI w w' na fa A na' fa' A') (hA : ArR w na fa A) : ArR w' na' fa' A' :=
  (h (fun _ => False) (fun _ h => h.elim) (fun u hu => hA.sub hu.sub)).now
/-- an arena that is answered -/
def ArO (w w' : World) (na fa : Option Addr) (A : Ar) (v : Value) (A' : Ar) : Prop :=
  ∃ na' fa' nc' fc', v = arV na' fa' nc' fc' A' ∧ A'.nodes.length ≤ nc' ∧ A'.free.length ≤ fc' ∧ ArI w w' na fa A na' fa' A'
/-! ### a free node is made one -/
def x0 (x : Node) : Node := { x with gen := 0 }
theorem x0_ok {x : Node} (h : x.ok) : (x0 x).ok := ⟨h.kind, z64, h.n, h.v, h.s, h.kids, h.pre, h.suf⟩
/-- may a node be made? -/
def mayMake (A : Ar) (x : Node) : Prop := AOk A ∧ 1 ≤ x.kind ∧ x.kind ≤ 100 ∧ well (x0 x) = true
def lastAt (A : Ar) : Int := A.free.getD (A.free.length - 1) 0
def genAt (A : Ar) (p : Int) : Int := (A.nodes.getD p.toNat (bareN 0)).gen
def madeN (A : Ar) (x : Node) : Node := { x with gen := genAt A (lastAt A) }
def makeA (A : Ar) (x : Node) : Ar := ⟨A.nodes.set (lastAt A).toNat (madeN A x), A.free.take (A.free.length - 1)⟩
def makeR (A : Ar) : Int := ofR (lastAt A) (genAt A (lastAt A))
theorem lastAt_get {A : Ar} (h : 0 < A.free.length) : A.free[A.free.length - 1]? = some (lastAt A) := by
  rw [lastAt, List.getD_eq_getElem?_getD, List.getElem?_eq_getElem (by omega)]; rfl
theorem lastAt_in {A : Ar} (hA : AOk A) (h : 0 < A.free.length) : 0 ≤ lastAt A ∧ lastAt A < A.nodes.length := hA.free _ (List.mem_of_getElem? (lastAt_get h))
theorem genAt_get {A : Ar} {p : Int} {y : Node} (h : A.nodes[p.toNat]? = some y) : genAt A p = y.gen := by
  rw [genAt, List.getD_eq_getElem?_getD, h]; rfl
theorem genAt_rng {A : Ar} (hA : AOk A) {p : Int} (h : 0 ≤ p ∧ p < A.nodes.length) : 0 ≤ genAt A p ∧ genAt A p ≤ 1048576 := by
  obtain ⟨y, hy⟩ := getSome (l := A.nodes) (i := p.toNat) (by omega)
  rw [genAt_get hy]
  have := (well_iff y).1 (hA.well y (List.mem_of_getElem? hy))
  omega
theorem make_isR {A : Ar} (hA : AOk A) (h : 0 < A.free.length) : isR (lastAt A) (genAt A (lastAt A)) = true := by
  have h1 := lastAt_in hA h
  have h2 := genAt_rng hA h1
  have := hA.most
  rw [isR_iff]; omega

end Go.Proofs.Ytjafbffehmombaa
