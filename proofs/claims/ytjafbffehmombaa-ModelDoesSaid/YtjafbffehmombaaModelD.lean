/-
  What an operation comes to on all containers, in plain Lean: what may be stays such.
-/
import Derived.Test.YtjafbffehmombaaModelDo
set_option linter.unusedVariables false
set_option linter.unusedSimpArgs false
namespace Go.Proofs.Ytjafbffehmombaa
open Go Go.XL

def doM (m : Mo) (o : OpT) : Mo × ResT :=
  if o.box = 1 then ({ m with map := (pairsM m.map o).1 }, (pairsM m.map o).2)
  else if o.box = 2 then ({ m with tab := (pairsM m.tab o).1 }, (pairsM m.tab o).2)
  else if o.box = 3 then ({ m with row := (rowM m.row o).1 }, (rowM m.row o).2)
  else ({ m with heap := (heapM m.heap o).1 }, (heapM m.heap o).2)
theorem rowM_len {l : List Int} {o : OpT} (h : l.length ≤ 200) : (rowM l o).1.length ≤ 200 := by
  unfold rowM
  repeat' split
  all_goals simp <;> omega
theorem delL_le (l : List It) (key : Int) : (delL l key).length ≤ l.length := List.length_filter_le _ _
/-- the row behind an operation on keys -/
theorem pairsM_row (l : List It) (o : OpT) : (pairsM l o).1 = l ∨ (pairsM l o).1 = delL l o.a ∨ ((pairsM l o).1 = putL l o.a o.b ∧ (hasK l o.a = true ∨ l.length < 200 ∧ (o.box = 2 → crowdL l o.a < 9))) := by
  unfold pairsM
  dsimp only
  split
  · exact .inl rfl
  · split
    · split
      · exact .inl rfl
      · rename_i h
        refine .inr (.inr ⟨rfl, ?_⟩)
        cases hh : hasK l o.a with
        | true => exact .inl rfl
        | false =>
          rw [hh] at h
          simp only [true_and, not_or, not_and] at h
          exact .inr ⟨by omega, fun e => by have := h.2 e; omega⟩
    · split
      · split <;> (try split) <;> exact .inl rfl
      · split
        · exact .inl rfl
        · split
          · exact .inl rfl
          · split
            · exact .inr (.inl rfl)
            · exact .inl rfl
theorem putL_size {l : List It} (hs : Srt l) (key v : Int) : (putL l key v).length = if hasK l key then l.length else l.length + 1 := by
  obtain ⟨g0, g1, g2, g3⟩ := part_has (key := key) hs rfl
  cases hh : hasK l key with
  | true =>
    obtain ⟨x, hx, e⟩ := g0.1 hh
    have := lt_of_get hx
    rw [put_has hs hx e, List.length_append, List.length_cons, List.length_take, List.length_drop, if_pos rfl]
    omega
  | false =>
    rw [put_no hs rfl hh, List.length_append, List.length_cons, List.length_take, List.length_drop, if_neg (by simp)]
    omega
theorem pairsM_ok {l : List It} {o : OpT} (hs : Srt l) (hi : ∀ x ∈ l, inK x) (hl : l.length ≤ 200) (hok : okP o) : Srt (pairsM l o).1 ∧ (∀ x ∈ (pairsM l o).1, inK x) ∧ (pairsM l o).1.length ≤ 200 := by
  rcases pairsM_row l o with e | e | ⟨e, h⟩ <;> rw [e]
  · exact ⟨hs, hi, hl⟩
  · exact ⟨hs.sub, fun x hx => hi x (filter_sub hx), Nat.le_trans (delL_le l o.a) hl⟩
  · refine ⟨hs.put, fun x hx => ?_, ?_⟩
    · rcases putL_mem hx with rfl | hx
      · exact ⟨hok.2.1, hok.2.2.1⟩
      · exact hi x hx
    · rw [putL_size hs]
      rcases h with h | h
      · rw [h, if_pos rfl]; exact hl
      · split <;> omega
theorem crowdL_app (l r : List It) (k : Int) : crowdL (l ++ r) k = crowdL l k + crowdL r k := by
  unfold crowdL; rw [List.filter_append, List.length_append]
theorem crowdL_cons (x : It) (l : List It) (k : Int) : crowdL (x :: l) k = (if hashOf x.k = hashOf k then 1 else 0) + crowdL l k := by
  unfold crowdL
  rw [List.filter_cons]
  by_cases h : hashOf x.k = hashOf k
  · rw [if_pos (decide_eq_true h), if_pos h, List.length_cons]; omega
  · rw [if_neg (by rw [decide_eq_false h]; simp), if_neg h]; omega
theorem crowdL_hash {k k' : Int} (h : hashOf k = hashOf k') (l : List It) : crowdL l k = crowdL l k' := by unfold crowdL; rw [h]
theorem crowdL_del (l : List It) (key k : Int) : crowdL (delL l key) k ≤ crowdL l k := by
  unfold crowdL delL
  exact ((List.filter_sublist).filter _).length_le
theorem pairsM_crowd {l : List It} {o : OpT} (hs : Srt l) (hc : ∀ x ∈ l, crowdL l x.k ≤ 9) (hb : o.box = 2) : ∀ x ∈ (pairsM l o).1, crowdL (pairsM l o).1 x.k ≤ 9 := by
  rcases pairsM_row l o with e | e | ⟨e, h⟩ <;> rw [e]
  · exact hc
  · exact fun x hx => Nat.le_trans (crowdL_del l o.a x.k) (hc x (filter_sub hx))
  · obtain ⟨n, hn⟩ : ∃ n, n = (ltL o.a l).length := ⟨_, rfl⟩
    obtain ⟨g0, g1, g2, g3⟩ := part_has (key := o.a) hs hn
    cases hh : hasK l o.a with
    | true =>
      obtain ⟨y, hy, e⟩ := g0.1 hh
      have e1 := put_has hs hy e (v := o.b)
      have e2 := split_get hy
      rw [e1]
      have key : ∀ k, crowdL (l.take n ++ ⟨o.a, o.b⟩ :: l.drop (n + 1)) k = crowdL l k := fun k => by
        conv => rhs; rw [e2]
        rw [crowdL_app, crowdL_app, crowdL_cons, crowdL_cons, e]
      intro x hx
      rw [key]
      rcases List.mem_append.1 hx with hx | hx
      · exact hc x (List.mem_of_mem_take hx)
      · rcases List.mem_cons.1 hx with rfl | hx
        · have := hc y (List.mem_of_getElem? hy); rwa [e] at this
        · exact hc x (List.mem_of_mem_drop hx)
    | false =>
      have e1 := put_no hs hn hh (v := o.b)
      rw [e1]
      have key : ∀ k, crowdL (l.take n ++ ⟨o.a, o.b⟩ :: l.drop n) k = crowdL l k + (if hashOf o.a = hashOf k then 1 else 0) := fun k => by
        conv => rhs; rw [← List.take_append_drop n l]
        have c : crowdL (⟨o.a, o.b⟩ :: l.drop n) k = (if hashOf o.a = hashOf k then 1 else 0) + crowdL (l.drop n) k := crowdL_cons _ _ _
        rw [crowdL_app, crowdL_app, c]; omega
      have h9 : crowdL l o.a < 9 := by
        rcases h with h | h
        · rw [hh] at h; cases h
        · exact h.2 hb
      intro x hx
      rw [key]
      by_cases q : hashOf o.a = hashOf x.k
      · rw [if_pos q, ← crowdL_hash q]; omega
      · rw [if_neg q]
        rcases List.mem_append.1 hx with hx | hx
        · exact hc x (List.mem_of_mem_take hx)
        · rcases List.mem_cons.1 hx with rfl | hx
          · exact absurd rfl q
          · exact hc x (List.mem_of_mem_drop hx)
theorem ins_get {l : List It} {x : It} {n : Nat} (hn : n ≤ l.length) (i : Nat) : (l.take n ++ x :: l.drop n)[i]? = if i < n then l[i]? else if i = n then some x else l[i - 1]? := by
  have hl : (l.take n).length = n := by rw [List.length_take]; omega
  by_cases h : i < n
  · rw [if_pos h, List.getElem?_append_left (by omega), List.getElem?_take_of_lt h]
  · rw [if_neg h, List.getElem?_append_right (by omega), hl]
    by_cases h2 : i = n
    · subst h2; rw [if_pos rfl, Nat.sub_self]; rfl
    · rw [if_neg h2, show i - n = (i - 1 - n) + 1 by omega, List.getElem?_cons_succ, List.getElem?_drop]; congr 1; omega
theorem whN_spec (x : It) : ∀ (l : List It), whN l x ≤ l.length ∧ (∀ k z, k < whN l x → l[k]? = some z → lessP z x) ∧ (∀ z, l[whN l x]? = some z → ¬ lessP z x)
  | [] => ⟨Nat.le_refl _, fun k z _ h => by simp at h, fun z h => by simp at h⟩
  | y :: l => by
    obtain ⟨h1, h2, h3⟩ := whN_spec x l
    by_cases q : lessP y x
    · have e : whN (y :: l) x = whN l x + 1 := by unfold whN; rw [List.takeWhile_cons, decide_eq_true q]; rfl
      rw [e]
      refine ⟨by simpa using h1, fun k z hk hz => ?_, fun z hz => h3 z (by simpa using hz)⟩
      cases k with
      | zero => simp at hz; subst hz; exact q
      | succ k => exact h2 k z (by omega) (by simpa using hz)
    · have e : whN (y :: l) x = 0 := by unfold whN; rw [List.takeWhile_cons, decide_eq_false q]; rfl
      rw [e]
      exact ⟨Nat.zero_le _, fun k z hk => absurd hk (Nat.not_lt_zero _), fun z hz => by simp at hz; subst hz; exact q⟩
theorem SrtH.ins {l : List It} (h : SrtH l) (x : It) : SrtH (l.take (whN l x) ++ x :: l.drop (whN l x)) := by
  obtain ⟨h1, h2, h3⟩ := whN_spec x l
  intro i y z hy hz
  rw [ins_get h1] at hy hz
  by_cases c1 : i + 1 < whN l x
  · rw [if_pos (by omega)] at hy; rw [if_pos c1] at hz; exact h i y z hy hz
  · rw [if_neg c1] at hz
    by_cases c2 : i + 1 = whN l x
    · rw [if_pos c2] at hz
      rw [if_pos (by omega)] at hy
      cases hz
      have := h2 i y (by omega) hy
      unfold lessP at *; omega
    · rw [if_neg c2] at hz
      rw [if_neg (by omega)] at hy
      by_cases c3 : i = whN l x
      · rw [if_pos c3] at hy
        cases hy
        exact h3 z (by rw [← hz]; congr 1; omega)
      · rw [if_neg c3] at hy
        exact h (i - 1) y z hy (by rw [← hz]; congr 1; omega)
theorem heapM_ok {l : List It} {o : OpT} (hs : SrtH l) (hi : ∀ x ∈ l, inK x) (hl : l.length ≤ 200) (hok : okP o) : SrtH (heapM l o).1 ∧ (∀ x ∈ (heapM l o).1, inK x) ∧ (heapM l o).1.length ≤ 200 := by
  unfold heapM
  split
  · exact ⟨hs, hi, hl⟩
  · split
    · split
      · exact ⟨hs, hi, hl⟩
      · obtain ⟨h1, _, _⟩ := whN_spec ⟨o.a, o.b⟩ l
        refine ⟨hs.ins _, fun x hx => ?_, by simp only [List.length_append, List.length_cons, List.length_take, List.length_drop]; omega⟩
        rcases List.mem_append.1 hx with hx | hx
        · exact hi x (List.mem_of_mem_take hx)
        · rcases List.mem_cons.1 hx with rfl | hx
          · exact ⟨hok.2.1, hok.2.2.1⟩
          · exact hi x (List.mem_of_mem_drop hx)
    · split
      · exact ⟨hs, hi, hl⟩
      · split
        · exact ⟨fun i x y hx hy => hs (1 + i) x y (by rw [← List.getElem?_drop]; exact hx) (by rw [Nat.add_assoc, ← List.getElem?_drop]; exact hy), fun x hx => hi x (List.mem_of_mem_drop hx), by simp only [List.length_drop]; omega⟩
        · exact ⟨hs, hi, hl⟩
theorem rightM_do {m : Mo} {o : OpT} (h : rightM m) (hok : okP o) : rightM (doM m o).1 := by
  obtain ⟨h1, h2, h3, h4, h5, h6, h7, h8⟩ := (rightM_iff m).1 h
  rw [rightM_iff]
  unfold doM
  split
  · obtain ⟨a, b, c⟩ := pairsM_ok h7 h3.1 h3.2 hok
    exact ⟨h1, h2, ⟨b, c⟩, h4, h5, h6, a, h8⟩
  · split
    · rename_i hb
      obtain ⟨a, b, c⟩ := pairsM_ok h8 h4.1 h4.2 hok
      exact ⟨h1, pairsM_crowd h8 h2 hb, h3, ⟨b, c⟩, h5, h6, h7, a⟩
    · split
      · exact ⟨h1, h2, h3, h4, h5, rowM_len h6, h7, h8⟩
      · obtain ⟨a, b, c⟩ := heapM_ok (o := o) h1 h5.1 h5.2 hok
        exact ⟨a, h2, h3, h4, ⟨b, c⟩, h6, h7, h8⟩
end Go.Proofs.Ytjafbffehmombaa
