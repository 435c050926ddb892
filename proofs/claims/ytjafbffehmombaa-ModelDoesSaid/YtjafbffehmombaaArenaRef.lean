/-
  The reference of the layer arena.
-/
import Derived.Test.YtjafbffehmombaaArena
set_option linter.unusedVariables false
set_option linter.unusedSimpArgs false
namespace Go.Proofs.Ytjafbffehmombaa
open Go Go.XL

structure Pre3 (A : Ar) (i : Nat) : Prop where
  at_ : ∀ (j : Nat) x, A.nodes[j]? = some x → j < i → well x = true ∧ A.free.count (j : Int) ≤ 1 ∧ (x.kind = 0 ↔ A.free.count (j : Int) = 1) ∧ (A.free.count (j : Int) = 1 → x = bareN x.gen)
theorem Pre3.succ {A : Ar} {i : Nat} {x : Node} (h : Pre3 A i) (hx : A.nodes[i]? = some x) (hr : well x = true ∧ A.free.count (i : Int) ≤ 1 ∧ (x.kind = 0 ↔ A.free.count (i : Int) = 1) ∧ (A.free.count (i : Int) = 1 → x = bareN x.gen)) : Pre3 A (i + 1) :=
  ⟨fun j y hy hj => (Nat.lt_succ_iff_lt_or_eq.1 hj).elim (h.at_ j y hy) (fun e => by subst e; rw [hx] at hy; cases hy; exact hr)⟩
theorem mem_iff_count1 {l : List Int} {x : Int} (h : l.count x ≤ 1) : x ∈ l ↔ l.count x = 1 := by
  rw [← List.count_pos_iff]; omega
theorem Pre3.aok {A : Ar} (h1 : 1 ≤ A.nodes.length ∧ A.nodes.length ≤ 512 ∧ A.free.length ≤ A.nodes.length) (p1 : ∀ x ∈ A.free, 0 ≤ x ∧ x < A.nodes.length) (p3 : Pre3 A A.nodes.length) : AOk A := by
  have key : ∀ (i : Nat) x, A.nodes[i]? = some x → _ := fun i x hx => p3.at_ i x hx (lt_of_get hx)
  refine ⟨h1.1, h1.2.1, h1.2.2, p1, ?_, ?_, ?_, ?_⟩
  · rw [List.nodup_iff_count]
    intro a
    by_cases ha : a ∈ A.free
    · have hr := p1 a ha
      obtain ⟨x, hx⟩ := getSome (l := A.nodes) (i := a.toNat) (by omega)
      have := (key _ x hx).2.1
      rwa [Int.toNat_of_nonneg hr.1] at this
    · rw [List.count_eq_zero_of_not_mem ha]; omega
  · intro x hx
    obtain ⟨j, hj⟩ := List.getElem?_of_mem hx
    exact (key j x hj).1
  · intro i x hx
    have := key i x hx
    rw [mem_iff_count1 this.2.1]; exact this.2.2.1
  · intro i x hx hm
    have := key i x hx
    exact this.2.2.2 ((mem_iff_count1 this.2.1).1 hm)
theorem aok_at3 {A : Ar} (h : AOk A) {i : Nat} {x : Node} (hx : A.nodes[i]? = some x) : well x = true ∧ A.free.count (i : Int) ≤ 1 ∧ (x.kind = 0 ↔ A.free.count (i : Int) = 1) ∧ (A.free.count (i : Int) = 1 → x = bareN x.gen) := by
  have hc := (List.nodup_iff_count.1 h.nodup) (i : Int)
  have := aok_at h hx
  rw [mem_iff_count1 hc] at this
  exact ⟨this.1, hc, this.2.1, this.2.2⟩

end Go.Proofs.Ytjafbffehmombaa
