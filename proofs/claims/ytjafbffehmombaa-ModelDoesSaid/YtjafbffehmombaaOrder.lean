/-
  The package order, walked.
-/
import Derived.Test.YtjafbffehmombaaOrderP
set_option linter.unusedVariables false
set_option linter.unusedSimpArgs false
namespace Go.Proofs.Ytjafbffehmombaa
open Go Go.XL

theorem Ft.has {w : World} {b : Nat} {cs : List Value} {e : TypeId} (h : Has w b cs e) : Ft (· = b) (fun u => Has u b cs e) w := ⟨fun k e => e ▸ h.lt, fun u a => h.step a (fun hn => hn rfl)⟩
/-- a function that is told where to go on, and keeps its word in blocks C -/
def Tells {σ : Type} (f : FuncId) (cs : List Value) (C : Nat → Prop) (I : σ → World → Prop) (step : σ → Node → Int → σ × Int) : Prop :=
  ∀ (s : σ) (x : Node) (left : Int) (w : World), x.ok → 0 ≤ left → left ≤ 1000 → Ft C (I s) w → FC Try.prog f ([x.val, .int .i64 left] ++ cs) w (fun v w' => v = .int .i64 (step s x left).2 ∧ Ft C (I (step s x left).1) w' ∧ Agr C w w')
theorem sizeA_rng {A : Ar} {r : Int} {l : List It} (h : IsT A r l) (hl : l.length ≤ 1000) : 0 ≤ sizeA A r ∧ sizeA A r ≤ 1000 := by rw [sizeA_isT h]; omega
theorem getV_s (A : Ar) (r : Int) : ∃ (y : Node) (e : Int), getV A r = .tuple #[y.val, .int .i64 e] ∧ y.s = sizeA A r ∧ (∀ x, getA A r = some x → y = x) := by
  unfold sizeA
  cases h : getA A r with
  | none => exact ⟨bareN 0, 4, getV_no h, rfl, fun x h => (by cases h)⟩
  | some x => exact ⟨x, 0, getV_yes h, rfl, fun y h => (by cases h; rfl)⟩
theorem isMap_len {A : Ar} {r : Int} {l : List It} (h : isMap A r) (hl : IsT A r l) : l.length ≤ 200 := by
  obtain ⟨_, m, h1, h2⟩ := h
  rw [hl.unique h1]; exact h2
theorem down_form {σ : Type} {C : Nat → Prop} {I : σ → World → Prop} {step : σ → Node → Int → σ × Int} {A : Ar} {r : Int} {s0 : σ} {v : Value} {w' : World} (h : ¬ isMap A r ∧ v = .int .i64 1 ∧ Ft C (I s0) w' ∨ isMap A r ∧ v = .int .i64 0 ∧ Ft C (I (downF A step 201 r s0)) w') :
    ∃ s e, v = .int .i64 e ∧ Ft C (I s) w' ∧ (¬ isMap A r ∧ e = 1 ∧ s = s0 ∨ isMap A r ∧ e = 0 ∧ s = downF A step 201 r s0) := by
  rcases h with ⟨h1, h2, h3⟩ | ⟨h1, h2, h3⟩
  · exact ⟨s0, 1, h2, h3, .inl ⟨h1, rfl, rfl⟩⟩
  · exact ⟨_, 0, h2, h3, .inr ⟨h1, rfl, rfl⟩⟩
/-! ### how many keys -/
def ISize (b2 : Nat) (s : Int) (u : World) : Prop := Has u b2 [.int .i64 s] 3
/-! ### what is found -/
/-! ### the one of a place -/
def IAt (b10 b8 b9 : Nat) (s : AtS) (u : World) : Prop := Has u b10 [.int .i64 s.k] 2 ∧ (Has u b8 s.x.cells 45 ∧ Has u b9 [.bool s.is] 4)
theorem at_end {l : List It} {p : Int} {x : It} {is : Bool} (h : (x, is) = atL l ⟨p, it0, false⟩) : (0 ≤ p ∧ p < l.length → l[p.toNat]? = some x ∧ (if (0 : Int) = 0 ∧ is = false then (3 : Int) else 0) = 0) ∧ (¬ (0 ≤ p ∧ p < l.length) → x = it0 ∧ (if (0 : Int) = 0 ∧ is = false then (3 : Int) else 0) = 3) := by
  unfold atL at h
  by_cases q : 0 ≤ p ∧ p < l.length
  · rw [if_pos q] at h
    obtain ⟨h1, h2⟩ := Prod.mk.inj h
    refine ⟨fun _ => ⟨?_, by rw [h2]; rfl⟩, fun e => absurd q e⟩
    obtain ⟨y, hy⟩ := getSome (l := l) (i := p.toNat) (by omega)
    rw [h1, List.getD_eq_getElem?_getD, hy]; rfl
  · rw [if_neg q] at h
    obtain ⟨h1, h2⟩ := Prod.mk.inj h
    exact ⟨fun e => absurd e q, fun _ => ⟨h1, by rw [h2]; rfl⟩⟩
/-! ### the place of a key -/
def IRank (key : Int) (b5 b8 : Nat) (s : Int) (u : World) : Prop := Has u b5 [.int .i64 key] 2 ∧ Has u b8 [.int .i64 s] 2
/-! ### the ones around a key -/
def IFl (key : Int) (b5 b8 b9 : Nat) (s : It × Bool) (u : World) : Prop := Has u b5 [.int .i64 key] 2 ∧ (Has u b8 s.1.cells 45 ∧ Has u b9 [.bool s.2] 4)
/-- what is found, or none -/
def foundE (s : It × Bool) : Int := if s.2 = false then 3 else 0
end Go.Proofs.Ytjafbffehmombaa
