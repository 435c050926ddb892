/-
  Places of keys in a row that rises, in plain Lean.
-/
import Derived.Test.YtdmaogopibljoaaOrderLaws
set_option linter.unusedVariables false
set_option linter.unusedSimpArgs false
namespace Go.Proofs.Ytdmaogopibljoaa
open Go Go.XL

def cntLt (l : List It) (key : Int) : Nat := (l.filter fun x => decide (x.k < key)).length
theorem cntLt_le (l : List It) (key : Int) : cntLt l key ≤ l.length := List.length_filter_le _ _
theorem cntLt_mono (l : List It) {a b : Int} (h : a ≤ b) : cntLt l a ≤ cntLt l b := by
  unfold cntLt
  induction l with
  | nil => simp
  | cons x l ih =>
    simp only [List.filter_cons]
    by_cases h1 : x.k < a
    · rw [if_pos (by simpa using h1), if_pos (by simp; omega)]; simp only [List.length_cons]; omega
    · rw [if_neg (by simpa using h1)]
      split
      · simp only [List.length_cons]; omega
      · exact ih
/-- those below a key come first -/
theorem filter_lt {L R : List It} {it : It} (h : Srt (L ++ it :: R)) {key : Int} (hk : key ≤ it.k) (hL : ∀ y ∈ L, y.k < key) : (L ++ it :: R).filter (fun x => decide (x.k < key)) = L := by
  have hR : R.filter (fun x => decide (x.k < key)) = [] := by
    rw [List.filter_eq_nil_iff]; intro y hy; have := h.split.2.2.2 y hy; simp; omega
  have hL2 : L.filter (fun x => decide (x.k < key)) = L := by
    rw [List.filter_eq_self]; intro y hy; simpa using hL y hy
  rw [List.filter_append, List.filter_cons, if_neg (by simp; omega), hR, hL2, List.append_nil]
theorem cntLt_at {l : List It} (hs : Srt l) {i : Nat} {y : It} (h : l[i]? = some y) : cntLt l y.k = i := by
  have hi := lt_of_get h
  have hsp := split_at h
  rw [hsp] at hs
  unfold cntLt
  rw [hsp, filter_lt hs (Int.le_refl _) (fun z hz => hs.split.2.2.1 z hz), List.length_take]
  omega
/-- the first one from a key on -/
theorem low_at {l : List It} (hs : Srt l) {key : Int} {y : It} (h : l[cntLt l key]? = some y) : key ≤ y.k ∧ ∀ z ∈ l.take (cntLt l key), z.k < key := by
  induction l with
  | nil => simp at h
  | cons x l ih =>
    have hp := List.pairwise_cons.1 hs
    by_cases q : x.k < key
    · have e : cntLt (x :: l) key = cntLt l key + 1 := by unfold cntLt; rw [List.filter_cons, if_pos (by simpa using q)]; rfl
      rw [e] at h ⊢
      rw [List.getElem?_cons_succ] at h
      have := ih hp.2 h
      refine ⟨this.1, fun z hz => ?_⟩
      rw [List.take_succ_cons] at hz
      rcases List.mem_cons.1 hz with e | hz
      · rw [e]; exact q
      · exact this.2 z hz
    · have hnil : l.filter (fun x => decide (x.k < key)) = [] := by
        rw [List.filter_eq_nil_iff]; intro z hz; have := hp.1 z hz; simp; omega
      have e : cntLt (x :: l) key = 0 := by unfold cntLt; rw [List.filter_cons, if_neg (by simpa using q), hnil]; rfl
      rw [e] at h ⊢
      simp at h
      subst h
      exact ⟨by omega, by simp⟩
theorem low_all {l : List It} (hs : Srt l) {key : Int} (h : ¬ cntLt l key < l.length) : ∀ z ∈ l, z.k < key := by
  intro z hz
  have e : cntLt l key = l.length := by have := cntLt_le l key; omega
  unfold cntLt at e
  have := List.length_filter_eq_length_iff.1 e z hz
  simpa using this
theorem ceil_low {l : List It} (hs : Srt l) (key : Int) (s : It × Bool) : (∀ y, l[cntLt l key]? = some y → ceilL key l s = (y, true)) ∧ (¬ cntLt l key < l.length → ceilL key l s = s) := by
  refine ⟨fun y h => ?_, fun h => ?_⟩
  · have hl := low_at hs h
    have hsp := split_at h
    rw [hsp] at hs
    rw [hsp, ceil_ge hs s (by omega)]
    unfold ceilL
    rw [List.filter_eq_nil_iff.2 (fun z hz => by have := hl.2 z hz; simp; omega)]
    rfl
  · unfold ceilL
    rw [List.filter_eq_nil_iff.2 (fun z hz => by have := low_all hs h z hz; simp; omega)]
    rfl
/-- how many are up to a key -/
def cntLe (l : List It) (key : Int) : Nat := (l.filter fun x => decide (x.k ≤ key)).length
theorem cntLe_succ (l : List It) (key : Int) : cntLe l key = cntLt l (key + 1) := by
  unfold cntLe cntLt
  congr 1
  congr 1
  funext x
  exact decide_eq_decide.2 (by omega)
theorem cntLe_lt {l : List It} (hs : Srt l) (key : Int) : (∀ y, l[cntLt l key]? = some y → y.k = key → cntLe l key = cntLt l key + 1) ∧ ((∀ y, l[cntLt l key]? = some y → ¬ y.k = key) → cntLe l key = cntLt l key) := by
  have h := cnt_split key (fun x => decide (x.k ≤ key)) l
  have h2 := cnt_key key (fun k => decide (k ≤ key)) hs
  have e1 : (l.filter fun x => decide (x.k < key)).filter (fun x => decide (x.k ≤ key)) = l.filter (fun x => decide (x.k < key)) := by
    rw [List.filter_eq_self]; intro y hy; have := of_decide_eq_true (List.mem_filter.1 hy).2; simp; omega
  have e2 : (l.filter fun x => decide (key < x.k)).filter (fun x => decide (x.k ≤ key)) = [] := by
    rw [List.filter_eq_nil_iff]; intro y hy; have := of_decide_eq_true (List.mem_filter.1 hy).2; simp; omega
  rw [e1, e2, h2] at h
  simp only [Int.le_refl, decide_true, Bool.and_true] at h
  constructor
  · intro y hy hk
    have : hasK l key = true := hasK_iff.2 ⟨y, List.mem_of_getElem? hy, hk⟩
    rw [this] at h
    simp at h
    unfold cntLe cntLt
    exact h
  · intro hno
    have : hasK l key = false := hasK_no fun z hz hk => by
      obtain ⟨i, hi⟩ := List.getElem?_of_mem hz
      have := cntLt_at hs hi
      rw [hk] at this
      exact hno z (this ▸ hi) hk
    rw [this] at h
    simp at h
    unfold cntLe cntLt
    exact h
theorem floor_up {l : List It} (hs : Srt l) (key : Int) (s : It × Bool) : (cntLe l key = 0 → floorL key l s = s) ∧ (∀ i y, cntLe l key = i + 1 → l[i]? = some y → floorL key l s = (y, true)) := by
  constructor
  · intro h
    unfold floorL
    rw [List.eq_nil_of_length_eq_zero h]
    rfl
  · intro i y h hy
    have hi := lt_of_get hy
    have hsp := split_at hy
    have hlow : y.k ≤ key := by
      rw [cntLe_succ] at h
      refine Classical.byContradiction fun hn => ?_
      have h1 := cntLt_mono l (show key + 1 ≤ y.k by omega)
      rw [cntLt_at hs hy] at h1
      omega
    have hs2 := hs
    rw [hsp] at hs2
    rw [hsp, floor_le hs2 s hlow]
    unfold floorL
    have hnil : (l.drop (i + 1)).filter (fun x => decide (x.k ≤ key)) = [] := by
      rw [List.filter_eq_nil_iff]
      intro z hz hzk
      have hzk := of_decide_eq_true hzk
      obtain ⟨j, hj⟩ := List.getElem?_of_mem hz
      rw [List.getElem?_drop] at hj
      have h1 := cntLt_at hs hj
      have h2 := cntLt_mono l (show z.k ≤ key + 1 by omega)
      rw [cntLe_succ] at h
      have hk2 : cntLt l (z.k + 1) = cntLe l z.k := (cntLe_succ l z.k).symm
      have hk3 := (cntLe_lt hs z.k).1 z (h1 ▸ hj) rfl
      have hk4 := cntLt_mono l (show z.k + 1 ≤ key + 1 by omega)
      omega
    rw [hnil]
    rfl
/-- what is found up to a key, and from it on -/
theorem floor_cases {l : List It} (hs : Srt l) (key : Int) : (foundE (floorL key l (it0, false)) = 0 ∧ ∃ i y, l[i]? = some y ∧ (floorL key l (it0, false)).1 = y ∧ y.k ≤ key ∧ cntLe l key = i + 1) ∨ (foundE (floorL key l (it0, false)) = 3 ∧ (floorL key l (it0, false)).1 = it0 ∧ cntLe l key = 0) := by
  have h := floor_up hs key (it0, false)
  cases hc : cntLe l key with
  | zero => right; rw [h.1 hc]; exact ⟨rfl, rfl, rfl⟩
  | succ i =>
    left
    have hle : cntLe l key ≤ l.length := by rw [cntLe_succ]; exact cntLt_le _ _
    obtain ⟨y, hy⟩ := getSome (l := l) (i := i) (by omega)
    rw [h.2 i y hc hy]
    refine ⟨rfl, i, y, hy, rfl, ?_, rfl⟩
    rw [cntLe_succ] at hc
    refine Classical.byContradiction fun hn => ?_
    have h1 := cntLt_mono l (show key + 1 ≤ y.k by omega)
    rw [cntLt_at hs hy] at h1
    omega
theorem ceil_cases {l : List It} (hs : Srt l) (key : Int) : (foundE (ceilL key l (it0, false)) = 0 ∧ ∃ y, l[cntLt l key]? = some y ∧ (ceilL key l (it0, false)).1 = y ∧ key ≤ y.k) ∨ (foundE (ceilL key l (it0, false)) = 3 ∧ (ceilL key l (it0, false)).1 = it0 ∧ cntLt l key = l.length) := by
  have h := ceil_low hs key (it0, false)
  by_cases q : cntLt l key < l.length
  · obtain ⟨y, hy⟩ := getSome (l := l) (i := cntLt l key) q
    left
    rw [h.1 y hy]
    exact ⟨rfl, y, hy, rfl, (low_at hs hy).1⟩
  · right
    rw [h.2 q]
    exact ⟨rfl, rfl, by have := cntLt_le l key; omega⟩
def idM (i : Int) : Int := i
theorem eqL_it (x : It) : eqL x.cells x.cells = true := by simp [eqL, eq1, It.cells]
end Go.Proofs.Ytdmaogopibljoaa
