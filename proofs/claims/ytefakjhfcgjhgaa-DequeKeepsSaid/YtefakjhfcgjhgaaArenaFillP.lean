/-
  Rounds in which all nodes are made, and dropped: plain law.
-/
import Derived.Test.YtefakjhfcgjhgaaArenaLike
set_option linter.unusedVariables false
set_option linter.unusedSimpArgs false
namespace Go.Proofs.Ytefakjhfcgjhgaa
open Go Go.XL

/-- of n nodes, all of generation g, i are made -/
structure Fill (n : Nat) (g : Int) (A : Ar) (i : Nat) : Prop where
  ok : AOk A
  len : A.nodes.length = n
  le : i ≤ n
  fr : A.free.length = n - i
  gen : ∀ (j : Nat) y, A.nodes[j]? = some y → y.gen = g

theorem fill_new {n : Nat} (h : 1 ≤ n ∧ n ≤ 512) : Fill n 0 (newA n) 0 :=
  ⟨newA_ok h, by simp [newA], Nat.zero_le _, by simp [newA, newFree_len], fun j y hy => by
    rw [(List.mem_replicate.1 (List.mem_of_getElem? hy)).2]; rfl⟩
theorem fill_genAt {n : Nat} {g : Int} {A : Ar} {i : Nat} (h : Fill n g A i) {p : Int} (hp : 0 ≤ p ∧ p < n) : genAt A p = g := by
  obtain ⟨y, hy⟩ := getSome (l := A.nodes) (i := p.toNat) (by have := h.len; omega)
  rw [genAt_get hy, h.gen _ _ hy]
theorem fill_make {n : Nat} {g : Int} {A : Ar} {i : Nat} (h : Fill n g A i) (hi : i < n) {x : Node} (hm : mayMake A x) : Fill n g (makeA A x) (i + 1) := by
  have hpos : 0 < A.free.length := by have := h.fr; omega
  have hin := lastAt_in h.ok hpos
  refine ⟨make_ok hm hpos, by simp [makeA, h.len], hi, by simp only [makeA, List.length_take]; have := h.fr; omega, fun j y hy => ?_⟩
  rcases make_get h.ok hpos hy with ⟨_, rfl⟩ | ⟨_, hy⟩
  · exact fill_genAt h (by rw [← h.len]; exact hin)
  · exact h.gen j y hy

theorem dropAll_some : ∀ (l : List Int) (A : Ar), l.Nodup → (∀ p ∈ l, 0 ≤ p ∧ ∃ y, A.nodes[p.toNat]? = some y ∧ ¬ y.kind = 0) →
    ∃ B, dropAll A l = some B ∧ B.free = A.free ++ l ∧ B.nodes.length = A.nodes.length ∧ ∀ (i : Nat) y, A.nodes[i]? = some y → B.nodes[i]? = some (if (i : Int) ∈ l then bareN ((y.gen + 1) % 1048577) else y)
  | [], A, _, _ => ⟨A, rfl, by simp, rfl, fun i y hy => by simpa using hy⟩
  | p :: l, A, hn, h => by
    obtain ⟨hp0, y, hy, hk⟩ := h p (by simp)
    have hlt := lt_of_get hy
    have hn2 := List.nodup_cons.1 hn
    have hst : dropStep A p = some ⟨A.nodes.set p.toNat (bareN ((y.gen + 1) % 1048577)), A.free ++ [p]⟩ := by
      rw [dropStep_at (by omega) hy, if_neg hk]
    obtain ⟨B, h1, h2, h3, h4⟩ := dropAll_some l ⟨A.nodes.set p.toNat (bareN ((y.gen + 1) % 1048577)), A.free ++ [p]⟩ hn2.2 (fun q hq => by
      obtain ⟨hq0, z, hz, hzk⟩ := h q (by simp [hq])
      have hne : ¬ p.toNat = q.toNat := by
        intro e
        have e2 : p = q := by omega
        exact hn2.1 (e2 ▸ hq)
      exact ⟨hq0, z, by simp only []; rw [List.getElem?_set_ne hne]; exact hz, hzk⟩)
    refine ⟨B, by simp only [dropAll, hst]; exact h1, by rw [h2]; simp, by rw [h3]; simp, fun i z hz => ?_⟩
    by_cases hi : p.toNat = i
    · subst hi
      rw [hz] at hy; cases hy
      have hnot : ¬ ((p.toNat : Nat) : Int) ∈ l := by rw [Int.toNat_of_nonneg hp0]; exact hn2.1
      have hin : ((p.toNat : Nat) : Int) ∈ p :: l := by rw [Int.toNat_of_nonneg hp0]; simp
      rw [h4 p.toNat (bareN ((y.gen + 1) % 1048577)) (by simp only []; rw [List.getElem?_set_self hlt]), if_neg hnot, if_pos hin]
    · have hne : ¬ (i : Int) = p := by omega
      have := h4 i z (by simp only []; rw [List.getElem?_set_ne hi]; exact hz)
      rw [this]
      simp only [List.mem_cons, hne, false_or]

/-- places, each once, as many as there are -/
theorem all_places {n : Nat} {l : List Int} (hn : l.Nodup) (hr : ∀ p ∈ l, 0 ≤ p ∧ p < n) (hl : l.length = n) {p : Int} (hp : 0 ≤ p ∧ p < n) : p ∈ l := by
  refine Classical.byContradiction fun hno => ?_
  have := pigeon n (l ++ [p]) (by
    rw [List.nodup_append]
    exact ⟨hn, by simp, fun a ha b hb e => by rw [List.mem_singleton] at hb; subst hb; subst e; exact hno ha⟩) (fun q hq => (List.mem_append.1 hq).elim (hr q) (fun h => by rw [List.mem_singleton] at h; exact h ▸ hp))
  rw [List.length_append, List.length_singleton] at this
  omega
theorem fill_drop {n : Nat} {g : Int} {A : Ar} (h : Fill n g A n) (hg : 0 ≤ g ∧ g < 1048576) {l : List Int} (hn : l.Nodup) (hr : ∀ p ∈ l, 0 ≤ p ∧ p < n) (hl : l.length = n) : ∃ B, dropAll A l = some B ∧ Fill n (g + 1) B 0 := by
  have hf : A.free = [] := List.eq_nil_of_length_eq_zero (by have := h.fr; omega)
  obtain ⟨B, h1, h2, h3, h4⟩ := dropAll_some l A hn (fun p hp => by
    have hpr := hr p hp
    obtain ⟨y, hy⟩ := getSome (l := A.nodes) (i := p.toNat) (by have := h.len; omega)
    exact ⟨hpr.1, y, hy, fun e => by have := (h.ok.kind _ y hy).1 e; rw [hf] at this; cases this⟩)
  refine ⟨B, h1, dropAll_ok l h.ok h1, by rw [h3, h.len], Nat.zero_le _, by rw [h2, hf]; simp [hl], fun j z hz => ?_⟩
  have hj := lt_of_get hz
  rw [h3, h.len] at hj
  obtain ⟨y, hy⟩ := getSome (l := A.nodes) (i := j) (by rw [h.len]; exact hj)
  have := h4 j y hy
  rw [if_pos (all_places hn hr hl (by omega)), hz] at this
  cases this
  rw [h.gen j y hy]
  show (g + 1) % 1048577 = g + 1
  omega
end Go.Proofs.Ytefakjhfcgjhgaa
