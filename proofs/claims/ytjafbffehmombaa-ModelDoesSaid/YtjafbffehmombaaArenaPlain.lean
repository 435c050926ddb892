/-
  What arenas are, in plain Lean: a new one may be, what is made of one may be, and is got.
-/
import Derived.Test.YtjafbffehmombaaArenaDrop
set_option linter.unusedVariables false
set_option linter.unusedSimpArgs false
namespace Go.Proofs.Ytjafbffehmombaa
open Go Go.XL

theorem mem_newFree {n : Nat} {x : Int} : x ∈ newFree n n ↔ 0 ≤ x ∧ x < n := by
  unfold newFree
  rw [List.mem_map]
  constructor
  · rintro ⟨j, hj, rfl⟩
    have := List.mem_range.1 hj
    omega
  · intro h
    exact ⟨((n : Int) - 1 - x).toNat, List.mem_range.2 (by omega), by omega⟩
theorem newFree_nodup (n : Nat) : ∀ i, (newFree n i).Nodup
  | 0 => by simp [newFree]
  | i + 1 => by
    rw [newFree_succ, List.nodup_append]
    refine ⟨newFree_nodup n i, by simp, fun a ha b hb e => ?_⟩
    rw [List.mem_singleton] at hb
    subst hb; subst e
    obtain ⟨j, hj, h⟩ := List.mem_map.1 ha
    have := List.mem_range.1 hj
    omega
theorem newA_ok {n : Nat} (h : 1 ≤ n ∧ n ≤ 512) : AOk (newA n) := by
  have hl : (newA n).nodes.length = n := by simp [newA]
  have key : ∀ (i : Nat) x, (newA n).nodes[i]? = some x → x = bareN 0 ∧ i < n := fun i x hx => by
    have h1 := lt_of_get hx
    have h2 := List.mem_of_getElem? hx
    exact ⟨(List.mem_replicate.1 h2).2, by omega⟩
  refine ⟨by omega, by omega, by rw [hl]; simp [newA, newFree_len], ?_, newFree_nodup n n, ?_, ?_, ?_⟩
  · intro x hx; rw [hl]; exact mem_newFree.1 hx
  · intro x hx; rw [(List.mem_replicate.1 hx).2]; rfl
  · intro i x hx
    obtain ⟨rfl, hi⟩ := key i x hx
    exact ⟨fun _ => mem_newFree.2 (by omega), fun _ => rfl⟩
  · intro i x hx _
    obtain ⟨rfl, hi⟩ := key i x hx
    rfl
theorem take_last_mem {l : List Int} (hn : l.Nodup) (h : 0 < l.length) {p : Int} (hp : l[l.length - 1]? = some p) (x : Int) : x ∈ l.take (l.length - 1) ↔ x ∈ l ∧ x ≠ p := by
  have e : l = l.take (l.length - 1) ++ [p] := by
    have := List.take_append_drop (l.length - 1) l
    conv => lhs; rw [← this]
    congr 1
    rw [List.drop_eq_getElem_cons (by omega), getElem_of hp (by omega), List.drop_eq_nil_of_le (by omega)]
  have hn2 := hn
  rw [e, List.nodup_append] at hn2
  constructor
  · intro hx
    exact ⟨List.mem_of_mem_take hx, fun h => hn2.2.2 x hx p (by simp) h⟩
  · rintro ⟨hx, hne⟩
    rw [e] at hx
    exact (List.mem_append.1 hx).resolve_right (by simpa using hne)
theorem make_get {A : Ar} {x : Node} (hA : AOk A) (h : 0 < A.free.length) {i : Nat} {y : Node} (hy : (makeA A x).nodes[i]? = some y) : (i : Int) = lastAt A ∧ y = madeN A x ∨ ¬ (i : Int) = lastAt A ∧ A.nodes[i]? = some y := by
  have hin := lastAt_in hA h
  simp only [makeA, List.getElem?_set] at hy
  split at hy
  · split at hy
    · cases hy; exact .inl ⟨by omega, rfl⟩
    · cases hy
  · exact .inr ⟨by omega, hy⟩
theorem madeN_well {A : Ar} {x : Node} (hm : mayMake A x) (h : 0 < A.free.length) : well (madeN A x) = true := by
  have hg := genAt_rng hm.1 (lastAt_in hm.1 h)
  have hw := (well_iff (x0 x)).1 hm.2.2.2
  rw [well_iff]
  exact ⟨⟨hg.1, hg.2, hw.1.2.2⟩, hw.2⟩
theorem make_ok {A : Ar} {x : Node} (hm : mayMake A x) (h : 0 < A.free.length) : AOk (makeA A x) := by
  have hA := hm.1
  have hin := lastAt_in hA h
  have hl : (makeA A x).nodes.length = A.nodes.length := by simp [makeA]
  have hmem := take_last_mem hA.nodup h (lastAt_get h)
  have hk : ¬ (madeN A x).kind = 0 := by have := hm.2.1; show ¬ x.kind = 0; omega
  refine ⟨by rw [hl]; exact hA.one, by rw [hl]; exact hA.most, ?_, ?_, ?_, ?_, ?_, ?_⟩
  · rw [hl]; simp only [makeA, List.length_take]; have := hA.fit; omega
  · intro y hy; rw [hl]; exact hA.free y (List.mem_of_mem_take hy)
  · exact hA.nodup.sublist (List.take_sublist _ _)
  · intro y hy
    obtain ⟨i, hi⟩ := List.getElem?_of_mem hy
    rcases make_get hA h hi with ⟨_, rfl⟩ | ⟨_, hi⟩
    · exact madeN_well hm h
    · exact hA.well y (List.mem_of_getElem? hi)
  · intro i y hy
    show _ ↔ (i : Int) ∈ A.free.take _
    rw [hmem]
    rcases make_get hA h hy with ⟨e, rfl⟩ | ⟨ne, hi⟩
    · exact ⟨fun h => absurd h hk, fun h => absurd e h.2⟩
    · rw [hA.kind i y hi]; exact ⟨fun h => ⟨h, ne⟩, fun h => h.1⟩
  · intro i y hy hf
    have hf2 := (hmem _).1 hf
    rcases make_get hA h hy with ⟨e, rfl⟩ | ⟨ne, hi⟩
    · exact absurd e hf2.2
    · exact hA.bare i y hi hf2.1
theorem get_made {A : Ar} {x : Node} (hm : mayMake A x) (h : 0 < A.free.length) : getA (makeA A x) (makeR A) = some (madeN A x) := by
  have hi := make_isR hm.1 h
  have hin := lastAt_in hm.1 h
  have hp := placeR_of hi
  have hg := genR_of hi
  rw [show ofR (lastAt A) (genAt A (lastAt A)) = makeR A from rfl] at hp hg
  have hk : ¬ (madeN A x).kind = 0 := by have := hm.2.1; show ¬ x.kind = 0; omega
  rw [getA_at (by omega) (x := madeN A x) (by rw [hp]; simp only [makeA]; rw [List.getElem?_set_self (by omega)]), if_neg]
  rintro (e | e)
  · exact hk e
  · exact e (by rw [hg]; rfl)
end Go.Proofs.Ytjafbffehmombaa
