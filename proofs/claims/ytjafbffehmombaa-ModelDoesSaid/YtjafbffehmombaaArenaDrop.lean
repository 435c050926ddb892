/-
  Nodes that are dropped.
-/
import Derived.Test.YtjafbffehmombaaArenaMake
set_option linter.unusedVariables false
set_option linter.unusedSimpArgs false
namespace Go.Proofs.Ytjafbffehmombaa
open Go Go.XL

/-- one node is free again -/
def dropStep (A : Ar) (p : Int) : Option Ar :=
  if 0 ≤ p ∧ p < A.nodes.length then
    match A.nodes[p.toNat]? with
    | none => none
    | some y => if y.kind = 0 then none else some ⟨A.nodes.set p.toNat (bareN ((y.gen + 1) % 1048577)), A.free ++ [p]⟩
  else none
def dropAll (A : Ar) : List Int → Option Ar
  | [] => some A
  | p :: l => match dropStep A p with | none => none | some A' => dropAll A' l
theorem dropStep_no {A : Ar} {p : Int} (h : p < 0 ∨ A.nodes.length ≤ p) : dropStep A p = none := by rw [dropStep, if_neg (by omega)]
theorem dropStep_at {A : Ar} {p : Int} {y : Node} (h : 0 ≤ p ∧ p < A.nodes.length) (hy : A.nodes[p.toNat]? = some y) : dropStep A p = if y.kind = 0 then none else some ⟨A.nodes.set p.toNat (bareN ((y.gen + 1) % 1048577)), A.free ++ [p]⟩ := by rw [dropStep, if_pos h, hy]
theorem dropStep_len {A A' : Ar} {p : Int} (h : dropStep A p = some A') : A'.nodes.length = A.nodes.length ∧ A'.free.length = A.free.length + 1 := by
  unfold dropStep at h
  split at h
  · split at h
    · cases h
    · split at h
      · cases h
      · cases h; simp
  · cases h
theorem pigeon : ∀ (n : Nat) (l : List Int), l.Nodup → (∀ x ∈ l, 0 ≤ x ∧ x < n) → l.length ≤ n
  | 0, l, _, h => by
    cases l with
    | nil => simp
    | cons x l => have := h x (by simp); omega
  | n + 1, l, hn, h => by
    have h1 : ∀ x ∈ l.erase (n : Int), 0 ≤ x ∧ x < n := fun x hx => by
      have := (hn.mem_erase_iff).1 hx
      have := h x this.2
      omega
    have := pigeon n (l.erase (n : Int)) (hn.erase _) h1
    by_cases hm : (n : Int) ∈ l
    · rw [List.length_erase_of_mem hm] at this; omega
    · rw [List.erase_of_not_mem hm] at this; omega
theorem dropStep_ok {A A' : Ar} {p : Int} (hA : AOk A) (h : dropStep A p = some A') : AOk A' := by
  unfold dropStep at h
  split at h
  rotate_left
  · cases h
  rename_i hp
  split at h
  · cases h
  rename_i y hy
  split at h
  · cases h
  rename_i hk
  cases h
  have hat := aok_at hA hy
  rw [Int.toNat_of_nonneg hp.1] at hat
  have hnf : p ∉ A.free := fun h => hk (hat.2.1.2 h)
  have hw := (well_iff y).1 hat.1
  have hnd : (A.free ++ [p]).Nodup := by
    rw [List.nodup_append]
    exact ⟨hA.nodup, by simp, fun a ha b hb e => by rw [List.mem_singleton] at hb; subst hb; subst e; exact hnf ha⟩
  have hall : ∀ x ∈ A.free ++ [p], 0 ≤ x ∧ x < A.nodes.length := fun x hx => (List.mem_append.1 hx).elim (hA.free x) (fun h => by rw [List.mem_singleton] at h; omega)
  have hg : well (bareN ((y.gen + 1) % 1048577)) = true := by
    rw [well_iff]
    refine ⟨?_, rfl⟩
    simp only [bareN]
    omega
  have get : ∀ (i : Nat) x, (A.nodes.set p.toNat (bareN ((y.gen + 1) % 1048577)))[i]? = some x → (i : Int) = p ∧ x = bareN ((y.gen + 1) % 1048577) ∨ ¬ (i : Int) = p ∧ A.nodes[i]? = some x := by
    intro i x hx
    rw [List.getElem?_set] at hx
    split at hx
    · split at hx
      · cases hx; exact .inl ⟨by omega, rfl⟩
      · cases hx
    · exact .inr ⟨by omega, hx⟩
  refine ⟨by simpa using hA.one, by simpa using hA.most, ?_, by simpa using hall, hnd, ?_, ?_, ?_⟩
  · -- as many are free as there are places, at most
    have := pigeon A.nodes.length (A.free ++ [p]) hnd hall
    simpa using this
  · intro x hx
    obtain ⟨i, hi⟩ := List.getElem?_of_mem hx
    rcases get i x hi with ⟨_, rfl⟩ | ⟨_, h⟩
    · exact hg
    · exact hA.well x (List.mem_of_getElem? h)
  · intro i x hi
    rcases get i x hi with ⟨e, rfl⟩ | ⟨ne, h⟩
    · simp [bareN, e]
    · have := hA.kind i x h
      rw [List.mem_append, List.mem_singleton]
      exact this.trans ⟨.inl, fun h => h.resolve_right ne⟩
  · intro i x hi hm
    rcases get i x hi with ⟨e, rfl⟩ | ⟨ne, h⟩
    · rfl
    · rw [List.mem_append, List.mem_singleton] at hm
      exact hA.bare i x h (hm.resolve_right ne)
theorem dropAll_ok : ∀ (l : List Int) {A A' : Ar}, AOk A → dropAll A l = some A' → AOk A'
  | [], A, A', hA, h => by simp only [dropAll] at h; cases h; exact hA
  | p :: l, A, A', hA, h => by
    simp only [dropAll] at h
    split at h
    · cases h
    · rename_i A1 h1
      exact dropAll_ok l (dropStep_ok hA h1) h
theorem dropAll_cons {A : Ar} {l : List Int} {i : Nat} {p : Int} (hp : l[i]? = some p) : dropAll A (l.drop i) = match dropStep A p with | none => none | some A' => dropAll A' (l.drop (i + 1)) := by
  have hi := lt_of_get hp
  rw [List.drop_eq_getElem_cons hi, getElem_of hp hi]
  rfl
theorem node_len (x : Node) : x.cells.length = 16 := rfl
theorem node_rows (l : List Node) : ∀ r ∈ l.map Node.cells, r.length = 16 := fun r hr => by obtain ⟨z, _, rfl⟩ := List.mem_map.1 hr; rfl

end Go.Proofs.Ytjafbffehmombaa
