/-
  What an operation on keys with values comes to, in plain Lean.
-/
import Derived.Test.YtjafbffehmombaaModelR
import Derived.Test.YtjafbffehmombaaOrderLawP
import Derived.Test.YtjafbffehmombaaForestP
set_option linter.unusedVariables false
set_option linter.unusedSimpArgs false
namespace Go.Proofs.Ytjafbffehmombaa
open Go Go.XL

structure ResT where
  e : Int
  a : Int
  b : Int
  deriving DecidableEq
def ResT.cells (r : ResT) : List Value := [.int .i64 r.e, .int .i64 r.a, .int .i64 r.b]
def valAt (l : List It) (n : Nat) : It := l.getD n it0
def pairsM (l : List It) (o : OpT) : List It × ResT :=
  let n := (ltL o.a l).length
  let is := hasK l o.a
  if o.kind = 6 then (l, ⟨0, l.length, 0⟩)
  else if o.kind = 2 then
    if is = false ∧ (200 ≤ l.length ∨ o.box = 2 ∧ 9 ≤ crowdL l o.a) then (l, ⟨5, 0, 0⟩)
    else (putL l o.a o.b, if is then ⟨0, 1, (valAt l n).v⟩ else ⟨0, 0, 0⟩)
  else if o.kind = 4 then
    if (if is then n + 1 else n) = 0 then (l, ⟨3, 0, 0⟩)
    else (l, ⟨0, (valAt l ((if is then n + 1 else n) - 1)).k, (valAt l ((if is then n + 1 else n) - 1)).v⟩)
  else if o.kind = 5 then (l, ⟨0, n, 0⟩)
  else if is = false then (l, ⟨3, 0, 0⟩)
  else (if o.kind = 3 then delL l o.a else l, ⟨0, (valAt l n).v, 0⟩)
theorem valAt_get {l : List It} {n : Nat} {x : It} (h : l[n]? = some x) : valAt l n = x := by rw [valAt, List.getD_eq_getElem?_getD, h]; rfl
/-- a row that is parted at a place -/
theorem part_lt {l : List It} {n : Nat} {key : Int} (hn : n ≤ l.length) (h1 : ∀ k x, k < n → l[k]? = some x → x.k < key) (h2 : ∀ k x, n ≤ k → l[k]? = some x → ¬ x.k < key) : ltL key l = l.take n ∧ (ltL key l).length = n := by
  have e : ltL key l = l.take n := by
    unfold ltL
    conv => lhs; rw [← List.take_append_drop n l]
    rw [List.filter_append, filter_all, filter_none, List.append_nil]
    · intro y hy
      obtain ⟨j, hj⟩ := List.getElem?_of_mem hy
      rw [List.getElem?_drop] at hj
      exact decide_eq_false (h2 _ y (by omega) hj)
    · intro y hy
      obtain ⟨j, hj⟩ := List.getElem?_of_mem hy
      have hjl := lt_of_get hj
      rw [List.length_take] at hjl
      rw [List.getElem?_take_of_lt (by omega)] at hj
      exact decide_eq_true (h1 j y (by omega) hj)
  exact ⟨e, by rw [e, List.length_take]; omega⟩
theorem srt_get {l : List It} (hs : Srt l) {i j : Nat} {x y : It} (hij : i < j) (hx : l[i]? = some x) (hy : l[j]? = some y) : x.k < y.k := by
  have := List.pairwise_iff_getElem.1 hs i j (lt_of_get hx) (lt_of_get hy) hij
  rw [getElem_of hx, getElem_of hy] at this
  exact this
/-- the key is at the place, or nowhere -/
theorem part_has {l : List It} (hs : Srt l) {n : Nat} {key : Int} (hn : n = (ltL key l).length) : (hasK l key = true ↔ ∃ x, l[n]? = some x ∧ x.k = key) ∧ (∀ k x, k < n → l[k]? = some x → x.k < key) ∧ (∀ k x, n ≤ k → l[k]? = some x → ¬ x.k < key) ∧ n ≤ l.length := by
  have hle : n ≤ l.length := by rw [hn]; exact List.length_filter_le _ _
  have key1 : ∀ k x, l[k]? = some x → (x.k < key ↔ k < n) := by
    -- the row is some below the key, then some that are not
    obtain ⟨m, hm, h1, h2⟩ : ∃ m, m ≤ l.length ∧ (∀ k x, k < m → l[k]? = some x → x.k < key) ∧ (∀ k x, m ≤ k → l[k]? = some x → ¬ x.k < key) := by
      clear hn hle
      have aux : ∀ m, m ≤ l.length → (∀ k x, k < m → l[k]? = some x → x.k < key) → ∃ m, m ≤ l.length ∧ (∀ k x, k < m → l[k]? = some x → x.k < key) ∧ (∀ k x, m ≤ k → l[k]? = some x → ¬ x.k < key) := by
        intro m
        induction hd : l.length - m generalizing m with
        | zero => intro hm h; exact ⟨m, hm, h, fun k x hk hx => absurd (lt_of_get hx) (by omega)⟩
        | succ d ih =>
          intro hm h
          obtain ⟨y, hy⟩ := getSome (l := l) (i := m) (by omega)
          by_cases q : y.k < key
          · refine ih (m + 1) (by omega) (by omega) (fun k x hk hx => ?_)
            rcases Nat.lt_or_ge k m with g | g
            · exact h k x g hx
            · obtain rfl : k = m := by omega
              rw [hy] at hx; cases hx; exact q
          · refine ⟨m, hm, h, fun k x hk hx hlt => ?_⟩
            rcases Nat.lt_or_ge m k with g | g
            · have := srt_get hs g hy hx; omega
            · obtain rfl : k = m := by omega
              rw [hy] at hx; cases hx; exact q hlt
      exact aux 0 (Nat.zero_le _) (fun k x hk => absurd hk (Nat.not_lt_zero _))
    have := (part_lt hm h1 h2).2
    rw [← hn] at this
    subst this
    intro k x hx
    exact ⟨fun h => by rcases Nat.lt_or_ge k n with g | g; exact g; exact absurd h (h2 k x g hx), fun h => h1 k x h hx⟩
  refine ⟨⟨fun h => ?_, fun ⟨x, hx, e⟩ => hasK_iff.2 ⟨x, List.mem_of_getElem? hx, e⟩⟩, fun k x hk hx => (key1 k x hx).2 hk, fun k x hk hx h => absurd ((key1 k x hx).1 h) (by omega), hle⟩
  obtain ⟨y, hy, e⟩ := hasK_iff.1 h
  obtain ⟨j, hj⟩ := List.getElem?_of_mem hy
  have h1 : n ≤ j := by
    rcases Nat.lt_or_ge j n with g | g
    · have := (key1 j y hj).2 g; omega
    · exact g
  rcases Nat.lt_or_ge n j with g | g
  · obtain ⟨x, hx⟩ := getSome (l := l) (i := n) (by have := lt_of_get hj; omega)
    have h2 := srt_get hs g hx hj
    exact absurd ((key1 n x hx).1 (by omega)) (by omega)
  · obtain rfl : j = n := by omega
    exact ⟨y, hj, e⟩
theorem split_get {l : List It} {n : Nat} {x : It} (h : l[n]? = some x) : l = l.take n ++ x :: l.drop (n + 1) := by
  have := List.getElem?_eq_some_iff.1 h
  obtain ⟨hl, e⟩ := this
  rw [← e, List.getElem_cons_drop, List.take_append_drop]
theorem put_has {l : List It} (hs : Srt l) {n : Nat} {x : It} {key v : Int} (h : l[n]? = some x) (e : x.k = key) : putL l key v = l.take n ++ ⟨key, v⟩ :: l.drop (n + 1) := by
  have h1 := split_get h
  rw [h1] at hs
  conv => lhs; rw [h1]
  exact putL_eq hs e
theorem del_has {l : List It} (hs : Srt l) {n : Nat} {x : It} {key : Int} (h : l[n]? = some x) (e : x.k = key) : delL l key = l.take n ++ l.drop (n + 1) := by
  have h1 := split_get h
  rw [h1] at hs
  conv => lhs; rw [h1]
  exact delL_eq hs e
theorem put_no {l : List It} (hs : Srt l) {n : Nat} {key v : Int} (hn : n = (ltL key l).length) (h : hasK l key = false) : putL l key v = l.take n ++ ⟨key, v⟩ :: l.drop n := by
  obtain ⟨g0, g1, g2, g3⟩ := part_has hs hn
  have e1 := (part_lt g3 g1 g2).1
  have e2 : gtL key l = l.drop n := by
    unfold gtL
    conv => lhs; rw [← List.take_append_drop n l]
    rw [List.filter_append, filter_none, filter_all, List.nil_append]
    · intro y hy
      obtain ⟨j, hj⟩ := List.getElem?_of_mem hy
      rw [List.getElem?_drop] at hj
      have := g2 _ y (by omega) hj
      have hne : ¬ y.k = key := fun e => by
        rw [hasK_iff.2 ⟨y, List.mem_of_mem_drop hy, e⟩] at h; cases h
      exact decide_eq_true (by omega)
    · intro y hy
      obtain ⟨j, hj⟩ := List.getElem?_of_mem hy
      have hjl := lt_of_get hj
      rw [List.length_take] at hjl
      rw [List.getElem?_take_of_lt (by omega)] at hj
      have := g1 j y (by omega) hj
      exact decide_eq_false (by omega)
  unfold putL
  rw [e1, e2]
end Go.Proofs.Ytjafbffehmombaa
