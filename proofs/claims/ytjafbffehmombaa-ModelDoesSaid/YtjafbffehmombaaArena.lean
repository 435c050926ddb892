/-
  The package arena and its reference: nodes, which arenas may be, what is got.
-/
import Derived.Test.YtjafbffehmombaaRef
set_option linter.unusedVariables false
set_option linter.unusedSimpArgs false
namespace Go.Proofs.Ytjafbffehmombaa
open Go Go.XL

structure Node where
  kind : Int
  gen : Int
  n : Int
  v : Int
  s : Int
  k0 : Int
  k1 : Int
  k2 : Int
  k3 : Int
  k4 : Int
  k5 : Int
  k6 : Int
  k7 : Int
  k8 : Int
  pre : Int
  suf : Int
  deriving DecidableEq

def u6 (x : Int) : Value := .int .u64 x
def i6 (x : Int) : Value := .int .i64 x
def Node.kids (x : Node) : List Int := [x.k0, x.k1, x.k2, x.k3, x.k4, x.k5, x.k6, x.k7, x.k8]
def Node.cells (x : Node) : List Value :=
  [.int .i64 x.kind, .int .i64 x.gen, .int .i64 x.n, .int .i64 x.v, .int .i64 x.s, .int .u64 x.k0, .int .u64 x.k1, .int .u64 x.k2, .int .u64 x.k3, .int .u64 x.k4, .int .u64 x.k5, .int .u64 x.k6, .int .u64 x.k7, .int .u64 x.k8, .int .i64 x.pre, .int .i64 x.suf]
def Node.val (x : Node) : Value := .agg x.cells.toArray
def bareN (g : Int) : Node := ⟨0, g, 0, 0, 0, 0, 0, 0, 0, 0, 0, 0, 0, 0, 0, 0⟩
structure Node.ok (x : Node) : Prop where
  kind : I64 x.kind
  gen : I64 x.gen
  n : I64 x.n
  v : I64 x.v
  s : I64 x.s
  kids : ∀ k ∈ x.kids, U64 k
  pre : I64 x.pre
  suf : I64 x.suf
theorem z64 : I64 0 := by unfold I64; omega
theorem zu64 : U64 0 := by unfold U64; omega
theorem bareN_ok {g : Int} (h : I64 g) : (bareN g).ok :=
  ⟨z64, h, z64, z64, z64, fun k hk => by
    simp [Node.kids, bareN] at hk
    subst hk
    exact zu64, z64, z64⟩
theorem getSome {α : Type} {l : List α} {i : Nat} (h : i < l.length) : ∃ x, l[i]? = some x := ⟨_, List.getElem?_eq_getElem h⟩
theorem lt_of_get {α : Type} {l : List α} {i : Nat} {x : α} (h : l[i]? = some x) : i < l.length := by
  rcases Nat.lt_or_ge i l.length with q | q
  · exact q
  · rw [List.getElem?_eq_none q] at h; cases h
theorem getElem_of {α : Type} {l : List α} {i : Nat} {x : α} (h : l[i]? = some x) (hi : i < l.length) : l[i] = x := by
  rw [List.getElem?_eq_getElem hi] at h; cases h; rfl

/-- may a node's numbers and references be? -/
def well (x : Node) : Bool := decide (0 ≤ x.gen ∧ x.gen ≤ 1048576 ∧ 0 ≤ x.pre ∧ x.pre ≤ 9 ∧ 0 ≤ x.suf ∧ x.suf ≤ 9) && x.kids.all rightR
theorem well_iff (x : Node) : well x = true ↔ (0 ≤ x.gen ∧ x.gen ≤ 1048576 ∧ 0 ≤ x.pre ∧ x.pre ≤ 9 ∧ 0 ≤ x.suf ∧ x.suf ≤ 9) ∧ x.kids.all rightR = true := by
  unfold well; rw [Bool.and_eq_true, decide_eq_true_iff]

structure Ar where
  nodes : List Node
  free : List Int
/-- which arenas may be -/
structure AOk (A : Ar) : Prop where
  one : 1 ≤ A.nodes.length
  most : A.nodes.length ≤ 512
  fit : A.free.length ≤ A.nodes.length
  free : ∀ x ∈ A.free, 0 ≤ x ∧ x < A.nodes.length
  nodup : A.free.Nodup
  well : ∀ x ∈ A.nodes, well x = true
  kind : ∀ (i : Nat) x, A.nodes[i]? = some x → (x.kind = 0 ↔ (i : Int) ∈ A.free)
  bare : ∀ (i : Nat) x, A.nodes[i]? = some x → (i : Int) ∈ A.free → x = bareN x.gen

/-- slices of numbers -/
def I1 (l : List Int) : List (List Value) := l.map fun x => [i6 x]
def U1 (l : List Int) : List (List Value) := l.map fun x => [u6 x]
/-- an arena lies in memory -/
structure ArR (w : World) (na fa : Option Addr) (A : Ar) : Prop where
  nodes : Sl w na 16 (A.nodes.map Node.cells)
  free : Sl w fa 1 (A.free.map fun x => [i6 x])
  nok : ∀ x ∈ A.nodes, x.ok
  fok : ∀ x ∈ A.free, I64 x
theorem ArR.sub {w w' na fa A} (h : ArR w na fa A) (s : Sub w w') : ArR w' na fa A := ⟨h.nodes.sub s, h.free.sub s, h.nok, h.fok⟩
def arV (na fa : Option Addr) (nc fc : Nat) (A : Ar) : Value := .agg #[.slice na A.nodes.length nc, .slice fa A.free.length fc]

/-- the place of the first one for which p is; -1: there is none -/
def idxOf {α : Type} (p : α → Bool) (l : List α) : Int := if l.any p then (l.findIdx p : Int) else -1
theorem any_not {α : Type} (p : α → Bool) (l : List α) : (!l.any fun x => !p x) = l.all p := by
  induction l with
  | nil => rfl
  | cons x l ih => simp [← ih]
theorem gen3_not (r : Int) (hr : U64 r) (h : ¬ r = 0) : gen3 r < 0 ↔ rightR r = false := by
  rw [Bool.eq_false_iff, Ne, rightR_iff]
  unfold U64 at hr
  unfold gen3
  split <;> omega
theorem rightR_0 : rightR 0 = true := rfl
noncomputable def aokB (A : Ar) : Bool := @decide (AOk A) (Classical.propDecidable _)
theorem aokB_iff (A : Ar) : aokB A = true ↔ AOk A := by unfold aokB; exact @decide_eq_true_iff _ (Classical.propDecidable _)

/-- which places were told, of the first i -/
def flags (A : Ar) (i : Nat) : List Bool := (List.range A.nodes.length).map fun (p : Nat) => decide ((p : Int) ∈ A.free.take i)
theorem flags_len (A : Ar) (i : Nat) : (flags A i).length = A.nodes.length := by simp [flags]
theorem flags_get (A : Ar) (i : Nat) (x : Int) (h : 0 ≤ x ∧ x < A.nodes.length) : (flags A i)[x.toNat]? = some (decide (x ∈ A.free.take i)) := by
  have h1 : x.toNat < A.nodes.length := by omega
  simp only [flags, List.getElem?_map, List.getElem?_range h1, Option.map_some]
  rw [Int.toNat_of_nonneg h.1]
theorem mem_take_succ {l : List Int} {i : Nat} {x y : Int} (hy : l[i]? = some y) : x ∈ l.take (i + 1) ↔ x ∈ l.take i ∨ x = y := by
  rw [List.take_add_one, hy]; simp
theorem flags_set (A : Ar) (i : Nat) (x : Int) (hx : A.free[i]? = some x) (h : 0 ≤ x ∧ x < A.nodes.length) : (flags A i).set x.toNat true = flags A (i + 1) := by
  apply List.ext_getElem?
  intro k
  rw [List.getElem?_set, flags_len]
  by_cases hk : k < A.nodes.length
  · have h2 := flags_get A (i + 1) k (by omega)
    have h3 := flags_get A i k (by omega)
    rw [Int.toNat_natCast] at h2 h3
    rw [h2, h3]
    by_cases e : x.toNat = k
    · rw [if_pos e, if_pos (by omega)]
      congr 1; symm
      rw [decide_eq_true_iff, mem_take_succ hx]
      exact .inr (by omega)
    · rw [if_neg e]
      congr 1
      rw [decide_eq_decide, mem_take_succ hx]
      exact ⟨.inl, fun h => h.resolve_right (by omega)⟩
  · rw [List.getElem?_eq_none (l := flags A (i + 1)) (by rw [flags_len]; omega), List.getElem?_eq_none (l := flags A i) (by rw [flags_len]; omega)]
    by_cases e : x.toNat = k
    · rw [if_pos e, if_neg (by omega)]
    · rw [if_neg e]
theorem flags_0 (A : Ar) : flags A 0 = List.replicate A.nodes.length false := by
  apply List.ext_getElem?
  intro k
  simp [flags, List.getElem?_replicate, List.getElem?_range]
  by_cases h : k < A.nodes.length
  · simp [h]
  · simp [h]
theorem flags_all (A : Ar) (i : Nat) (h : i = A.free.length) (k : Nat) (hk : k < A.nodes.length) : (flags A i)[k]? = some (decide ((k : Int) ∈ A.free)) := by
  have := flags_get A i k (by omega)
  rw [Int.toNat_natCast, h, List.take_length] at this
  rw [h]; exact this
theorem nodup_take_succ {l : List Int} {i : Nat} {y : Int} (hy : l[i]? = some y) : (l.take (i + 1)).Nodup ↔ (l.take i).Nodup ∧ y ∉ l.take i := by
  rw [List.take_add_one, hy, Option.toList_some, List.nodup_append]
  constructor
  · rintro ⟨h1, _, h3⟩; exact ⟨h1, fun h => h3 _ h _ (List.mem_singleton.2 rfl) rfl⟩
  · rintro ⟨h1, h2⟩
    exact ⟨h1, by simp, fun a ha b hb e => by rw [List.mem_singleton] at hb; subst hb; subst e; exact h2 ha⟩
/-- what the first loop finds out of the first i -/
structure Pre1 (A : Ar) (i : Nat) : Prop where
  rng : ∀ x ∈ A.free.take i, 0 ≤ x ∧ x < A.nodes.length
  nd : (A.free.take i).Nodup
theorem Pre1.succ {A : Ar} {i : Nat} {x : Int} (h : Pre1 A i) (hx : A.free[i]? = some x) (hr : 0 ≤ x ∧ x < A.nodes.length) (hn : x ∉ A.free.take i) : Pre1 A (i + 1) :=
  ⟨fun y hy => ((mem_take_succ hx).1 hy).elim (h.rng y) (fun e => e ▸ hr), (nodup_take_succ hx).2 ⟨h.nd, hn⟩⟩
/-- what the second loop finds out of the first i nodes -/
def Pre2 (A : Ar) (i : Nat) : Prop := ∀ (j : Nat) x, A.nodes[j]? = some x → j < i → well x = true ∧ (x.kind = 0 ↔ (j : Int) ∈ A.free) ∧ ((j : Int) ∈ A.free → x = bareN x.gen)
theorem Pre2.succ {A : Ar} {i : Nat} {x : Node} (h : Pre2 A i) (hx : A.nodes[i]? = some x) (hr : well x = true ∧ (x.kind = 0 ↔ (i : Int) ∈ A.free) ∧ ((i : Int) ∈ A.free → x = bareN x.gen)) : Pre2 A (i + 1) :=
  fun j y hy hj => (Nat.lt_succ_iff_lt_or_eq.1 hj).elim (h j y hy) (fun e => by subst e; rw [hx] at hy; cases hy; exact hr)
theorem aok_mk {A : Ar} (h1 : 1 ≤ A.nodes.length ∧ A.nodes.length ≤ 512 ∧ A.free.length ≤ A.nodes.length) (p1 : Pre1 A A.free.length) (p2 : Pre2 A A.nodes.length) : AOk A :=
  ⟨h1.1, h1.2.1, h1.2.2, by have := p1.rng; rwa [List.take_length] at this, by have := p1.nd; rwa [List.take_length] at this,
   fun x hx => by obtain ⟨j, hj⟩ := List.getElem?_of_mem hx; exact (p2 j x hj (lt_of_get hj)).1,
   fun i x hx => (p2 i x hx (lt_of_get hx)).2.1, fun i x hx => (p2 i x hx (lt_of_get hx)).2.2⟩
theorem aok_at {A : Ar} (h : AOk A) {i : Nat} {x : Node} (hx : A.nodes[i]? = some x) : well x = true ∧ (x.kind = 0 ↔ (i : Int) ∈ A.free) ∧ ((i : Int) ∈ A.free → x = bareN x.gen) :=
  ⟨h.well x (List.mem_of_getElem? hx), h.kind i x hx, h.bare i x hx⟩
theorem aok_no_dup {A : Ar} (h : AOk A) {i : Nat} {x : Int} (hx : A.free[i]? = some x) : x ∉ A.free.take i := by
  have : (A.free.take (i + 1)).Nodup := h.nodup.sublist (List.take_sublist _ _)
  exact ((nodup_take_succ hx).1 this).2
theorem aokB_no {A : Ar} (h : ¬ AOk A) : aokB A = false := by rw [Bool.eq_false_iff]; exact fun e => h ((aokB_iff A).1 e)
theorem aokB_yes {A : Ar} (h : AOk A) : aokB A = true := (aokB_iff A).2 h
theorem eqL_cells (x y : Node) : eqL x.cells y.cells = decide (x = y) := by
  cases x; cases y
  simp only [Node.cells, eqL, eq1, Node.mk.injEq, Bool.decide_and, Bool.and_true]
  rfl
theorem fits_cells (x : Node) : fitsK [some .i64, some .i64, some .i64, some .i64, some .i64, some .u64, some .u64, some .u64, some .u64, some .u64, some .u64, some .u64, some .u64, some .u64, some .i64, some .i64] x.cells = true := rfl

end Go.Proofs.Ytjafbffehmombaa
