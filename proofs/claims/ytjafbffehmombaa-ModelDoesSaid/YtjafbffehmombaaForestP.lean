/-
  Maps that are made of maps, in plain Lean: nodes that are, stay.
-/
import Derived.Test.YtjafbffehmombaaOrder
import Derived.Test.YtjafbffehmombaaForge
set_option linter.unusedVariables false
set_option linter.unusedSimpArgs false
namespace Go.Proofs.Ytjafbffehmombaa
open Go Go.XL

theorem Ext.isT {A A' : Ar} (h : Ext A A') {r : Int} {L : List It} (hr : IsT A r L) : IsT A' r L := by
  induction hr with
  | nil => exact .nil
  | node h1 _ _ h4 h5 ih1 ih2 => exact .node (h.get h1) ih1 ih2 h4 h5
def szF (A : Ar) (a b : Int) : Int := IntKind.i64.wrap (IntKind.i64.wrap (1 + sizeA A a) + sizeA A b)
def mkN (A : Ar) (n v a b : Int) : Node := tNode 0 n v (szF A a b) a b
/-- one node is made -/
def Mk (s : St) (n v a b : Int) (s' : St) (r : Int) : Prop :=
  (¬ s.2 = 0 ∧ s' = s ∧ r = 0) ∨ (s.2 = 0 ∧ mayMake s.1 (mkN s.1 n v a b) ∧ 0 < s.1.free.length ∧ s' = (makeA s.1 (mkN s.1 n v a b), 0) ∧ r = makeR s.1) ∨
  (s.2 = 0 ∧ mayMake s.1 (mkN s.1 n v a b) ∧ s.1.free.length = 0 ∧ s' = (s.1, 2) ∧ r = 0) ∨ (s.2 = 0 ∧ ¬ mayMake s.1 (mkN s.1 n v a b) ∧ s' = (s.1, 1) ∧ r = 0)
theorem IsT.right {A : Ar} {r : Int} {L : List It} (h : IsT A r L) : rightR r = true := by
  cases h with
  | nil => exact (rightR_iff 0).2 (.inl rfl)
  | node h1 =>
    have h2 := (getA_rng h1).1
    refine Classical.byContradiction fun e => ?_
    rw [placeR_not (fun hn : nodeR r => e hn.2)] at h2
    omega
theorem Mk.gs {s s' : St} {n v a b r : Int} (h : Mk s n v a b s' r) (hA : AOk s.1) (hk : s.2 = 0 → rightR a = true ∧ rightR b = true) : Gs 1 s s' := by
  have hmay : s.2 = 0 → mayMake s.1 (mkN s.1 n v a b) := fun h0 => by
    obtain ⟨h1, h2⟩ := hk h0
    refine ⟨hA, Int.le_refl 1, (by decide : (1 : Int) ≤ 100), ?_⟩
    have h3 : rightR 0 = true := (rightR_iff 0).2 (.inl rfl)
    rw [well_iff]
    refine ⟨by simp [x0, mkN, tNode], ?_⟩
    simp [x0, mkN, tNode, Node.kids, h1, h2, h3]
  rcases h with ⟨h0, rfl, rfl⟩ | ⟨h0, hm, hf, rfl, rfl⟩ | ⟨h0, hm, hf, rfl, rfl⟩ | ⟨h0, hm, rfl, rfl⟩
  · exact (Gs.refl hA).mono (by omega)
  · refine ⟨make_ext hA hf, make_ok hm hf, ?_, fun e => absurd h0 e, fun _ e => absurd rfl e⟩
    simp only [makeA, List.length_take]; omega
  · exact ⟨Ext.refl _, hA, by omega, fun e => absurd h0 e, fun _ _ => ⟨rfl, by omega⟩⟩
  · exact absurd (hmay h0) hm
theorem Mk.u64 {s s' : St} {n v a b r : Int} (h : Mk s n v a b s' r) : U64 r := by
  rcases h with ⟨_, _, rfl⟩ | ⟨_, hm, hf, _, rfl⟩ | ⟨_, _, _, _, rfl⟩ | ⟨_, _, _, rfl⟩
  · unfold U64; decide
  · exact ofR_U64 (make_isR hm.1 hf)
  · unfold U64; decide
  · unfold U64; decide
theorem Mk.isT {s s' : St} {a b r : Int} {it : It} {L R : List It} (h : Mk s it.k it.v a b s' r) (hA : AOk s.1) (h0 : s'.2 = 0) (ha : IsT s.1 a L) (hb : IsT s.1 b R) (hl : L.length + R.length ≤ 1000000)
    (hp : ∀ y ∈ L ++ R, beforeK it.k y.k = true) (hs : Srt (L ++ it :: R)) : IsT s'.1 r (L ++ it :: R) := by
  rcases h with ⟨h1, rfl, rfl⟩ | ⟨h1, hm, hf, rfl, rfl⟩ | ⟨_, _, _, rfl, _⟩ | ⟨_, _, rfl, _⟩
  · exact absurd h0 h1
  · have hx := make_ext (x := mkN s.1 it.k it.v a b) hA hf
    refine .node (g := genAt s.1 (lastAt s.1)) (a := a) (b := b) ?_ (hx.isT ha) (hx.isT hb) hp hs
    rw [get_made hm hf]
    have hz : szF s.1 a b = (L.length : Int) + R.length + 1 := by
      unfold szF
      rw [sizeA_isT ha, sizeA_isT hb]
      have e1 : IntKind.i64.wrap (1 + (L.length : Int)) = 1 + L.length := wrap_i64 (by omega)
      have e2 : IntKind.i64.wrap (1 + (L.length : Int) + R.length) = 1 + L.length + R.length := wrap_i64 (by omega)
      rw [e1, e2]
      omega
    simp only [madeN, mkN, tNode, hz]
  · exact absurd h0 (show ¬ (2 : Int) = 0 by decide)
  · exact absurd h0 (show ¬ (1 : Int) = 0 by decide)

/-! ### rows that are parted, put, taken off -/
def ltL (key : Int) (L : List It) : List It := L.filter fun x => decide (x.k < key)
def geL (key : Int) (L : List It) : List It := L.filter fun x => decide (key ≤ x.k)
def gtL (key : Int) (L : List It) : List It := L.filter fun x => decide (key < x.k)
def putL (L : List It) (key v : Int) : List It := ltL key L ++ ⟨key, v⟩ :: gtL key L
def delL (L : List It) (key : Int) : List It := L.filter fun x => decide (¬ x.k = key)
theorem filter_sub {p : It → Bool} {L : List It} {y : It} (h : y ∈ L.filter p) : y ∈ L := (List.mem_filter.1 h).1
theorem filter_all {p : It → Bool} {L : List It} (h : ∀ y ∈ L, p y = true) : L.filter p = L := List.filter_eq_self.2 h
theorem filter_none {p : It → Bool} {L : List It} (h : ∀ y ∈ L, p y = false) : L.filter p = [] := List.filter_eq_nil_iff.2 fun y hy => by rw [h y hy]; simp
section
variable {L R : List It} {it : It} {key v : Int}
theorem ltL_lt (h : Srt (L ++ it :: R)) (q : it.k < key) : ltL key (L ++ it :: R) = L ++ it :: ltL key R := by
  unfold ltL
  rw [List.filter_append, List.filter_cons, if_pos (by simpa using q), filter_all]
  intro y hy; have := h.split.2.2.1 y hy; simp; omega
theorem geL_lt (h : Srt (L ++ it :: R)) (q : it.k < key) : geL key (L ++ it :: R) = geL key R := by
  unfold geL
  rw [List.filter_append, List.filter_cons, if_neg (by simp; omega), filter_none (L := L), List.nil_append]
  intro y hy; have := h.split.2.2.1 y hy; simp; omega
theorem ltL_ge (h : Srt (L ++ it :: R)) (q : ¬ it.k < key) : ltL key (L ++ it :: R) = ltL key L := by
  unfold ltL
  rw [List.filter_append, List.filter_cons, if_neg (by simpa using q), filter_none (L := R), List.append_nil]
  intro y hy; have := h.split.2.2.2 y hy; simp; omega
theorem geL_ge (h : Srt (L ++ it :: R)) (q : ¬ it.k < key) : geL key (L ++ it :: R) = geL key L ++ it :: R := by
  unfold geL
  rw [List.filter_append, List.filter_cons, if_pos (by simp; omega), filter_all (L := R)]
  intro y hy; have := h.split.2.2.2 y hy; simp; omega
theorem gtL_ge (h : Srt (L ++ it :: R)) (q : key < it.k) : gtL key (L ++ it :: R) = gtL key L ++ it :: R := by
  unfold gtL
  rw [List.filter_append, List.filter_cons, if_pos (by simp; omega), filter_all (L := R)]
  intro y hy; have := h.split.2.2.2 y hy; simp; omega
theorem gtL_le (h : Srt (L ++ it :: R)) (q : ¬ key < it.k) : gtL key (L ++ it :: R) = gtL key R := by
  unfold gtL
  rw [List.filter_append, List.filter_cons, if_neg (by simp; omega), filter_none (L := L), List.nil_append]
  intro y hy; have := h.split.2.2.1 y hy; simp; omega
theorem geL_gt (h : ∀ y ∈ L, ¬ y.k = key) : geL key L = gtL key L := by
  unfold geL gtL
  exact List.filter_congr fun y hy => decide_eq_decide.2 ⟨fun e => by have := h y hy; omega, fun e => by omega⟩
theorem putL_eq (h : Srt (L ++ it :: R)) (q : it.k = key) : putL (L ++ it :: R) key v = L ++ ⟨key, v⟩ :: R := by
  unfold putL
  rw [ltL_ge h (by omega), gtL_le h (by omega)]
  have h1 : ltL key L = L := filter_all fun y hy => by have := h.split.2.2.1 y hy; simp; omega
  have h2 : gtL key R = R := filter_all fun y hy => by have := h.split.2.2.2 y hy; simp; omega
  rw [h1, h2]
theorem putL_lt (h : Srt (L ++ it :: R)) (q : key < it.k) : putL (L ++ it :: R) key v = putL L key v ++ it :: R := by
  unfold putL
  rw [ltL_ge h (by omega), gtL_ge h q]
  simp
theorem putL_gt (h : Srt (L ++ it :: R)) (q : it.k < key) : putL (L ++ it :: R) key v = L ++ it :: putL R key v := by
  unfold putL
  rw [ltL_lt h q, gtL_le h (by omega)]
  simp
theorem delL_eq (h : Srt (L ++ it :: R)) (q : it.k = key) : delL (L ++ it :: R) key = L ++ R := by
  unfold delL
  rw [List.filter_append, List.filter_cons, if_neg (by simpa using q), filter_all, filter_all]
  · intro y hy; have := h.split.2.2.2 y hy; simp; omega
  · intro y hy; have := h.split.2.2.1 y hy; simp; omega
theorem delL_lt (h : Srt (L ++ it :: R)) (q : key < it.k) : delL (L ++ it :: R) key = delL L key ++ it :: R := by
  unfold delL
  rw [List.filter_append, List.filter_cons, if_pos (by simp; omega), filter_all (L := R)]
  intro y hy; have := h.split.2.2.2 y hy; simp; omega
theorem delL_gt (h : Srt (L ++ it :: R)) (q : it.k < key) : delL (L ++ it :: R) key = L ++ it :: delL R key := by
  unfold delL
  rw [List.filter_append, List.filter_cons, if_pos (by simp; omega), filter_all (L := L)]
  intro y hy; have := h.split.2.2.1 y hy; simp; omega
theorem Srt.sub {p : It → Bool} (h : Srt L) : Srt (L.filter p) := List.Pairwise.filter _ h
theorem Srt.put (h : Srt L) : Srt (putL L key v) := by
  unfold putL
  refine Srt.join h.sub h.sub (fun y hy => ?_) (fun y hy => ?_)
  · have := (List.mem_filter.1 hy).2; simpa using this
  · have := (List.mem_filter.1 hy).2; simpa using this
theorem putL_mem {y : It} (h : y ∈ putL L key v) : y = ⟨key, v⟩ ∨ y ∈ L := by
  unfold putL at h
  rcases List.mem_append.1 h with h | h
  · exact .inr (filter_sub h)
  · rcases List.mem_cons.1 h with h | h
    · exact .inl h
    · exact .inr (filter_sub h)
theorem putR_putL (h : Srt L) : putR L key v = putL L key v := putR_srt h key v
theorem putL_len (h : Srt L) : (putL L key v).length ≤ L.length + 1 := by rw [← putR_putL h]; exact putR_len L key v
end
end Go.Proofs.Ytjafbffehmombaa
