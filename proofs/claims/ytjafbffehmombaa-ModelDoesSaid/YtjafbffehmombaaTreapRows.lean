/-
  Rows of keys with values: put, below, the place of a key.
-/
import Derived.Test.YtjafbffehmombaaTreapRef
set_option linter.unusedVariables false
set_option linter.unusedSimpArgs false
namespace Go.Proofs.Ytjafbffehmombaa
open Go Go.XL

theorem it_rows {l : List It} : ∀ r ∈ l.map It.cells, r.length = 2 := fun r hr => by obtain ⟨x, _, rfl⟩ := List.mem_map.1 hr; rfl
/-! ### a key is put -/
def putStep (key v : Int) (s : List It × Bool) (x : It) : List It × Bool :=
  (if x.k = key then (if s.2 = false ∧ key ≤ x.k then s.1 ++ [⟨key, v⟩] else s.1) else (if s.2 = false ∧ key ≤ x.k then s.1 ++ [⟨key, v⟩] else s.1) ++ [x], s.2 || decide (key ≤ x.k))
def putS (l : List It) (key v : Int) : Nat → List It × Bool
  | 0 => ([], false)
  | i + 1 => putStep key v (putS l key v i) (l.getD i it0)
def putR (l : List It) (key v : Int) : List It := if (putS l key v l.length).2 then (putS l key v l.length).1 else (putS l key v l.length).1 ++ [⟨key, v⟩]
theorem putStep_len {key v : Int} {s : List It × Bool} {x : It} {i : Nat} (h : s.1.length ≤ i + (if s.2 then 1 else 0)) : (putStep key v s x).1.length ≤ i + 1 + (if (putStep key v s x).2 then 1 else 0) := by
  obtain ⟨o, d⟩ := s
  simp only [putStep] at h ⊢
  by_cases h2 : key ≤ x.k
  · rw [decide_eq_true h2, Bool.or_true, if_pos rfl]
    cases d <;> simp only [Bool.false_eq_true, if_false, if_true, true_and, false_and] at h ⊢
    · rw [if_pos h2]; split <;> simp <;> omega
    · split <;> simp <;> omega
  · rw [decide_eq_false h2, Bool.or_false]
    cases d <;> simp only [Bool.false_eq_true, if_false, if_true, true_and, false_and] at h ⊢
    · rw [if_neg h2]; split <;> simp <;> omega
    · split <;> simp <;> omega
theorem putS_len (l : List It) (key v : Int) : ∀ i, (putS l key v i).1.length ≤ i + (if (putS l key v i).2 then 1 else 0)
  | 0 => by simp [putS]
  | i + 1 => putStep_len (putS_len l key v i)
theorem putS_step {l : List It} {key v : Int} {i : Nat} {x : It} (h : l[i]? = some x) : putS l key v (i + 1) = (if x.k = key then (if (putS l key v i).2 = false ∧ key ≤ x.k then (putS l key v i).1 ++ [⟨key, v⟩] else (putS l key v i).1) else (if (putS l key v i).2 = false ∧ key ≤ x.k then (putS l key v i).1 ++ [⟨key, v⟩] else (putS l key v i).1) ++ [x], (putS l key v i).2 || decide (key ≤ x.k)) := by
  have : l.getD i it0 = x := by rw [List.getD_eq_getElem?_getD, h]; rfl
  rw [putS, this, putStep]
theorem putS_srt {l : List It} (hs : Srt l) (key v : Int) : ∀ i, i ≤ l.length → (putS l key v i).2 = (l.take i).any (fun x => decide (key ≤ x.k)) ∧ (putS l key v i).1 = (l.take i).filter (fun x => decide (x.k < key)) ++ (if (putS l key v i).2 then ⟨key, v⟩ :: (l.take i).filter (fun x => decide (key < x.k)) else [])
  | 0, _ => by simp [putS]
  | i + 1, hi => by
    obtain ⟨x, hx⟩ := getSome (l := l) (i := i) (by omega)
    obtain ⟨h1, h2⟩ := putS_srt hs key v i (by omega)
    have ht : l.take (i + 1) = l.take i ++ [x] := by rw [List.take_add_one, hx]; rfl
    rw [putS_step hx, ht, h1]
    simp only [List.any_append, List.any_cons, List.any_nil, Bool.or_false, List.filter_append, List.filter_cons, List.filter_nil]
    refine ⟨trivial, ?_⟩
    rw [h1] at h2
    have hlow : ∀ y ∈ l.take i, y.k < x.k := fun y hy => by
      obtain ⟨j, hj⟩ := List.getElem?_of_mem hy
      have hjl := lt_of_get hj
      rw [List.length_take] at hjl
      rw [List.getElem?_take_of_lt (by omega)] at hj
      have := List.pairwise_iff_getElem.1 hs j i (by omega) (by omega) (by omega)
      rw [getElem_of hj, getElem_of hx] at this
      exact this
    cases ha : (l.take i).any (fun x => decide (key ≤ x.k)) with
    | false =>
      rw [ha] at h2
      simp only [Bool.false_eq_true, if_false, List.append_nil] at h2
      simp only [true_and, Bool.false_or]
      rw [h2]
      have hno : (l.take i).filter (fun x => decide (key < x.k)) = [] := by
        rw [List.filter_eq_nil_iff]
        intro y hy
        have := List.any_eq_false.1 ha y hy
        simp only [decide_eq_true_eq] at this ⊢
        omega
      rw [hno]
      by_cases e1 : x.k = key
      · rw [if_pos e1, if_pos (by omega), decide_eq_false (show ¬ x.k < key by omega), decide_eq_true (show key ≤ x.k by omega), decide_eq_false (show ¬ key < x.k by omega)]
        simp
      · rw [if_neg e1]
        by_cases e2 : key ≤ x.k
        · rw [if_pos e2, decide_eq_false (show ¬ x.k < key by omega), decide_eq_true e2, decide_eq_true (show key < x.k by omega)]
          simp
        · rw [if_neg e2, decide_eq_true (show x.k < key by omega), decide_eq_false e2]
          simp
    | true =>
      rw [ha] at h2
      simp only [if_true] at h2
      obtain ⟨y, hy, hyk⟩ := List.any_eq_true.1 ha
      have hyk := of_decide_eq_true hyk
      have := hlow y hy
      simp only [Bool.true_or, if_true]
      rw [if_neg (by omega), if_neg (by rintro ⟨e, _⟩; cases e), h2, decide_eq_false (show ¬ x.k < key by omega), decide_eq_true (show key < x.k by omega)]
      simp
theorem putR_srt {l : List It} (hs : Srt l) (key v : Int) : putR l key v = l.filter (fun x => decide (x.k < key)) ++ ⟨key, v⟩ :: l.filter (fun x => decide (key < x.k)) := by
  obtain ⟨h1, h2⟩ := putS_srt hs key v l.length (Nat.le_refl _)
  rw [List.take_length] at h1 h2
  unfold putR
  rw [h2, h1]
  cases ha : l.any (fun x => decide (key ≤ x.k)) with
  | true => rfl
  | false =>
    have hno : l.filter (fun x => decide (key < x.k)) = [] := by
      rw [List.filter_eq_nil_iff]
      intro y hy
      have := List.any_eq_false.1 ha y hy
      simp only [decide_eq_true_eq] at this ⊢
      omega
    rw [hno]; simp
theorem putR_ok {l : List It} (hs : Srt l) (key v : Int) : Srt (putR l key v) := by
  rw [putR_srt hs]
  exact Srt.join (List.Pairwise.filter _ hs) (List.Pairwise.filter _ hs) (fun y hy => of_decide_eq_true (List.mem_filter.1 hy).2) (fun y hy => of_decide_eq_true (List.mem_filter.1 hy).2)
theorem putR_mem {l : List It} (hs : Srt l) {key v : Int} {y : It} : y ∈ putR l key v ↔ y = ⟨key, v⟩ ∨ y ∈ l ∧ ¬ y.k = key := by
  rw [putR_srt hs, List.mem_append, List.mem_cons, List.mem_filter, List.mem_filter, decide_eq_true_iff, decide_eq_true_iff]
  constructor
  · rintro (h | h | h)
    · exact .inr ⟨h.1, by omega⟩
    · exact .inl h
    · exact .inr ⟨h.1, by omega⟩
  · rintro (h | h)
    · exact .inr (.inl h)
    · rcases Int.lt_or_lt_of_ne h.2 with q | q
      · exact .inl ⟨h.1, q⟩
      · exact .inr (.inr ⟨h.1, q⟩)
theorem putR_len (l : List It) (key v : Int) : (putR l key v).length ≤ l.length + 1 := by
  have := putS_len l key v l.length
  unfold putR
  split
  · rename_i h; rw [if_pos h] at this; exact this
  · rename_i h; rw [if_neg h] at this; simp; omega
theorem c_refPut (l : List It) (a : Option Addr) (c m : Nat) (hm : m = l.length) (key v : Int) (w : World) (hl : Sl w a 2 (l.map It.cells)) (hb : l.length ≤ 1000000) :
    FC Try.prog 54 [.slice a m c, .int .i64 key, .int .i64 v] w (fun u w' => ∃ a' c', u = .slice a' ((putR l key v).map It.cells).length c' ∧ Ows w.heap.size w' 45 2 (.slice a' ((putR l key v).map It.cells).length c') ((putR l key v).map It.cells) ∧ Sub w w') := by
  subst hm
  have hpl := putS_len l key v
  refine FC.intro Try.func54 rfl Try.ntmps54 rfl ?_
  have S := Sub.refl w
  refine RC.seq ?_
  refine RC.region rfl ?_
  refine RL.ev (.assign rfl) rfl rfl ?_
  refine RL.nil (RC.back ?_)
  refine RC.seq ?_
  refine RC.region rfl ?_
  refine RL.buildSlice0 sl22 rfl rfl (fun b_11 w_11 e_11 z_11 hb_11 s_11 => ?_)
  have ge_11 := S.le e_11
  have S := S.trans s_11
  refine RL.ev (.assign rfl) rfl rfl ?_
  refine RL.nil (RC.back ?_)
  refine RC.seq ?_
  refine RC.region rfl ?_
  refine RL.ev (.assign rfl) rfl rfl ?_
  refine RL.nil (RC.back ?_)
  refine RC.seq ?_
  refine RC.seq ?_
  refine RC.region rfl ?_
  refine RL.ev (.move rfl) rfl rfl ?_
  refine RL.ev (.len sl22 rfl) rfl rfl ?_
  refine RL.ev (.move rfl) rfl rfl ?_
  refine RL.nil (RC.back ?_)
  refine RC.block ?_
  refine RC.loop (α := Nat × List It × Bool × Option Addr × Nat × Nat) (fun x => [(1, .int .i64 key), (2, .int .i64 v), (7, .slice x.2.2.2.1 x.2.2.2.2.1 x.2.2.2.2.2), (8, .bool x.2.2.1), (12, .slice a l.length c), (13, .int .i64 (l.length : Int)), (14, .int .i64 (x.1 : Int))]) (fun x w1 => (x.1 ≤ l.length ∧ putS l key v x.1 = (x.2.1, x.2.2.1)) ∧ Ows w.heap.size w1 45 2 (.slice x.2.2.2.1 x.2.2.2.2.1 x.2.2.2.2.2) (x.2.1.map It.cells) ∧ Sub w w1) (fun x => l.length - x.1) (0, [], false, some ⟨b_11, 0, none⟩, 0, 0) (keep_of (by repeat (first | exact trivial | refine And.intro rfl ?_))) (⟨⟨Nat.zero_le _, rfl⟩, Ows.lit0 hb_11 (by omega), S⟩) (fun x w1 hJ => ?_)
  obtain ⟨i, o, d, ao, mo, co⟩ := x; obtain ⟨⟨hi, hp⟩, o7, S⟩ := hJ; simp only [] at hi hp o7; obtain rfl := o7.sl.2; have hol := hpl i; rw [hp] at hol; simp only [] at hol; have hol2 : o.length ≤ i + 1 := Nat.le_trans hol (by split <;> omega); have szB := S.size
  refine RC.seq ?_
  refine RC.region rfl ?_
  refine RL.ev (.bin rfl rfl rfl) rfl rfl ?_
  refine RL.nil (RC.back ?_)
  refine RC.seq ?_
  refine RC.cond_dec rfl (fun h2 => ?_) (fun h2 => ?_)
  ·
    obtain ⟨x, hx⟩ := getSome (l := l) (i := i) (by omega)
    have hst := putS_step (key := key) (v := v) hx
    rw [hp] at hst
    simp only [] at hst
    refine RC.skip (RC.back ?_)
    refine RC.seq ?_
    refine RC.block ?_
    refine RC.seq ?_
    refine RC.region rfl ?_
    refine RL.ev (.indexS sl22 rfl rfl (by omega) (hl.is (i := 0) (by simp only [List.length_map, List.length_cons, List.length_nil]; omega))) rfl rfl ?_
    refine RL.ev (.loadR (x.cells) sh45 rfl ((hl.sub S).rowAt (enc := It.cells) (i := i) hx) rfl) rfl rfl ?_
    refine RL.alloc ze45 rfl rfl (fun b_10 w_10 e_10 z_10 hb_10 s_10 => ?_)
    have ge_10 := S.le e_10
    have d_o7_b_10 := o7.neNew e_10
    have S := S.trans s_10
    have o7 := o7.sub s_10
    have szB := Nat.le_trans szB s_10.size
    refine RL.store sh45 rfl rfl rfl hb_10 (by exact Nat.le_of_ble_eq_true rfl) (by rfl) rfl (fun w3 z3 hb_10 a3 => ?_)
    have S := S.upd a3 ge_10
    have o7 := o7.updD a3 d_o7_b_10
    have szB := Nat.le_trans szB a3.size
    have hb_10 : Has w3 b_10 (x.cells) _ := hb_10.now (by kernel_rfl)
    refine RL.nil (RC.back ?_)
    refine RC.cutx (α := List It × Bool × Option Addr × Nat × Nat) (fun y_ => [(1, .int .i64 key), (2, .int .i64 v), (7, .slice y_.2.2.1 y_.2.2.2.1 y_.2.2.2.2), (8, .bool y_.2.1), (10, .pointer (some ⟨b_10, 0, none⟩)), (12, .slice a l.length c), (13, .int .i64 (l.length : Int)), (14, .int .i64 (i : Int))]) (fun y_ w4 => (y_.1 = (if d = false ∧ key ≤ x.k then o ++ [⟨key, v⟩] else o) ∧ y_.2.1 = (d || decide (key ≤ x.k)) ∧ y_.1.length ≤ i + 2) ∧ Ows w.heap.size w4 45 2 (.slice y_.2.2.1 y_.2.2.2.1 y_.2.2.2.2) (y_.1.map It.cells) ∧ Has w4 b_10 x.cells 45 ∧ (∀ k, ob (.slice y_.2.2.1 y_.2.2.2.1 y_.2.2.2.2) = some k → k ≠ b_10) ∧ Sub w w4) ?_ (fun y_ w4 hJ => ?_)
    ·
      refine RC.seq ?_
      refine RC.region rfl ?_
      refine RL.ev (.move rfl) rfl rfl ?_
      refine RL.ev (.not rfl) rfl rfl ?_
      refine RL.ev (.move rfl) rfl rfl ?_
      refine RL.splitB 20 rfl (fun h5 => ?_) (fun h5 => ?_)
      ·
        have hd : d = false := (by simpa using h5)
        refine RL.ev (.field0 fo45_0 rfl) rfl rfl ?_
        refine RL.ev (.load1 sh2 rfl (hb_10.cell rfl)) rfl rfl ?_
        refine RL.ev (.move rfl) rfl rfl ?_
        refine RL.ev (.bin rfl rfl rfl) rfl rfl ?_
        refine RL.ev (.pick_t rfl rfl) rfl rfl ?_
        refine RL.nil (RC.back ?_)
        refine RC.cond_dec rfl (fun h6 => ?_) (fun h6 => ?_)
        ·
          have hk := h6
          refine RC.seq ?_
          refine RC.region rfl ?_
          refine RL.ev (.move rfl) rfl rfl ?_
          refine RL.ev (.move rfl) rfl rfl ?_
          refine RL.ev (.move rfl) rfl rfl ?_
          refine RL.ev (.buildS ze45 pl45 rfl rfl) rfl rfl ?_
          refine RL.buildSlice1 sl22 _ ze45 rfl rfl rfl rfl rfl rfl rfl (fun b_30 w_30 e_30 z_30 hb_30 s_30 => ?_)
          have ge_30 := S.le e_30
          have n_10__30 := hb_10.ne e_30
          have d_o7_b_30 := o7.neNew e_30
          have S := S.trans s_30
          have o7 := o7.sub s_30
          have szB := Nat.le_trans szB s_30.size
          have hb_10 := hb_10.sub s_30
          have sz_31 := S.size
          have ltb_10_31 := hb_10.lt
          have ltb_30_31 := hb_30.lt
          refine RL.append2 (base := w.heap.size) (rows := o.map It.cells) (news := [_]) sl22 ze45 rfl rfl rfl rfl (.inl o7) (Has.slOne hb_30) rfl (by intro r hr; rw [List.mem_singleton] at hr; subst hr; rfl) rfl (by (try simp only [List.length_map, List.length_nil, List.length_append, List.length_cons]); omega) (by (try simp only [List.length_map, List.length_nil, List.length_append, List.length_cons]); omega) (by omega) rfl rfl (fun v_31 w_31 hc_31 ho_31 ag_31 ob_31 => ?_)
          have o31 := ho_31 (.inl (by simp))
          rw [show _ ++ [_] = ((o ++ [(⟨key, v⟩ : It)]).map It.cells) from by rw [List.map_append]; rfl] at o31
          have d_o31_b_10 := obNe ob_31 d_o7_b_10 hb_10.lt
          have S := S.agrN ag_31 (fun k e => Nat.le_trans (by omega) e.2)
          have szB := Nat.le_trans szB ag_31.size
          have hb_10 := hb_10.step ag_31 (fun e => d_o7_b_10 _ e.1 rfl)
          obtain ⟨a_31, c_31, rfl, k_31⟩ := o31.form
          refine RL.ev (.assign rfl) rfl rfl ?_
          refine RL.nil (RC.back ?_)
          refine RC.region rfl ?_
          refine RL.ev (.assign rfl) rfl rfl ?_
          exact RL.nil (fun a ka => ⟨(o ++ [⟨key, v⟩], true, a_31, _, c_31), ⟨⟨by rw [if_pos ⟨hd, hk⟩], by rw [decide_eq_true hk, Bool.or_true], by simp; omega⟩, o31, hb_10, d_o31_b_10, S⟩, ka.keep (keep_of (by repeat (first | exact trivial | refine And.intro rfl ?_)))⟩)
        ·
          have hk := h6
          exact RC.skip (fun a ka => ⟨(o, d, ao, _, co), ⟨⟨by rw [if_neg (fun e => hk e.2)], by rw [decide_eq_false hk, Bool.or_false], by simp; omega⟩, o7, hb_10, d_o7_b_10, S⟩, ka.keep (keep_of (by repeat (first | exact trivial | refine And.intro rfl ?_)))⟩)
      ·
        have hd : d = true := (by simpa using h5)
        refine RL.off rfl rfl ?_
        refine RL.off rfl rfl ?_
        refine RL.off rfl rfl ?_
        refine RL.off rfl rfl ?_
        refine RL.ev (.pick_f rfl rfl) rfl rfl ?_
        refine RL.nil (RC.back ?_)
        refine RC.cond_f rfl ?_
        exact RC.skip (fun a ka => ⟨(o, d, ao, _, co), ⟨⟨by rw [if_neg (fun e => by rw [hd] at e; cases e.1)], by rw [hd]; rfl, by simp; omega⟩, o7, hb_10, d_o7_b_10, S⟩, ka.keep (keep_of (by repeat (first | exact trivial | refine And.intro rfl ?_)))⟩)
    obtain ⟨o1, d1, a1, m1, c1⟩ := y_
    obtain ⟨⟨ho1, hd1, hl1⟩, o7, hb_10, d7, S⟩ := hJ
    simp only [] at ho1 hd1 hl1 o7 d7
    obtain rfl := o7.sl.2
    rw [← ho1, ← hd1] at hst
    have szB := S.size
    refine RC.seq ?_
    refine RC.region rfl ?_
    refine RL.ev (.field0 fo45_0 rfl) rfl rfl ?_
    refine RL.ev (.load1 sh2 rfl (hb_10.cell rfl)) rfl rfl ?_
    refine RL.ev (.move rfl) rfl rfl ?_
    refine RL.ev (.bin rfl rfl rfl) rfl rfl ?_
    refine RL.nil (RC.back ?_)
    refine RC.cond_dec rfl (fun h7 => ?_) (fun h7 => ?_)
    ·
      have hne := h7
      refine RC.region rfl ?_
      refine RL.ev (.move rfl) rfl rfl ?_
      refine RL.ev (.loadR (x.cells) sh45 rfl hb_10.row rfl) rfl rfl ?_
      refine RL.buildSlice1 sl22 _ ze45 rfl rfl rfl rfl rfl rfl rfl (fun b_38 w_38 e_38 z_38 hb_38 s_38 => ?_)
      have ge_38 := S.le e_38
      have n_10__38 := hb_10.ne e_38
      have d_o7_b_38 := o7.neNew e_38
      have S := S.trans s_38
      have hb_10 := hb_10.sub s_38
      have o7 := o7.sub s_38
      have szB := Nat.le_trans szB s_38.size
      have sz_39 := S.size
      have ltb_10_39 := hb_10.lt
      have ltb_38_39 := hb_38.lt
      refine RL.append2 (base := w.heap.size) (rows := o1.map It.cells) (news := [_]) sl22 ze45 rfl rfl rfl rfl (.inl o7) (Has.slOne hb_38) rfl (by intro r hr; rw [List.mem_singleton] at hr; subst hr; rfl) rfl (by (try simp only [List.length_map, List.length_nil, List.length_append, List.length_cons]); omega) (by (try simp only [List.length_map, List.length_nil, List.length_append, List.length_cons]); omega) (by omega) rfl rfl (fun v_39 w_39 hc_39 ho_39 ag_39 ob_39 => ?_)
      have o39 := ho_39 (.inl (by simp))
      rw [show _ ++ [_] = ((o1 ++ [x]).map It.cells) from by rw [List.map_append]; rfl] at o39
      have d_o39_b_10 := obNe ob_39 d7 hb_10.lt
      have S := S.agrN ag_39 (fun k e => Nat.le_trans (by omega) e.2)
      have hb_10 := hb_10.step ag_39 (fun e => d7 _ e.1 rfl)
      have szB := Nat.le_trans szB ag_39.size
      obtain ⟨a_39, c_39, rfl, k_39⟩ := o39.form
      refine RL.ev (.assign rfl) rfl rfl ?_
      refine RL.nil (RC.back ?_)
      refine RC.region rfl ?_
      refine RL.ev (.as (.bin rfl rfl rfl) (wi64 (y := ((i + 1 : Nat) : Int)) (by omega) (by omega))) rfl rfl ?_
      refine RL.ev (.move rfl) rfl rfl ?_
      exact RL.nil (fun a ka => ⟨(i + 1, o1 ++ [x], d1, a_39, _, c_39), ⟨⟨by omega, by rw [hst, if_neg hne]⟩, o39, S⟩, by omega, ka.keep (keep_of (by repeat (first | exact trivial | refine And.intro rfl ?_)))⟩)
    ·
      have hne := Decidable.not_not.1 h7
      refine RC.skip (RC.back ?_)
      refine RC.region rfl ?_
      refine RL.ev (.as (.bin rfl rfl rfl) (wi64 (y := ((i + 1 : Nat) : Int)) (by omega) (by omega))) rfl rfl ?_
      refine RL.ev (.move rfl) rfl rfl ?_
      exact RL.nil (fun a ka => ⟨(i + 1, o1, d1, a1, _, c1), ⟨⟨by omega, by rw [hst, if_pos hne]⟩, o7, S⟩, by omega, ka.keep (keep_of (by repeat (first | exact trivial | refine And.intro rfl ?_)))⟩)
  ·
    obtain rfl : i = l.length := (by omega)
    refine RC.exit rfl (RC.back ?_)
    refine RC.seq ?_
    refine RC.seq ?_
    refine RC.region rfl ?_
    refine RL.ev (.move rfl) rfl rfl ?_
    refine RL.ev (.not rfl) rfl rfl ?_
    refine RL.nil (RC.back ?_)
    refine RC.cond rfl (fun h8 => ?_) (fun h8 => ?_)
    ·
      have hd : d = false := (by simpa using h8)
      have hres : putR l key v = o ++ [⟨key, v⟩] := (by rw [putR, hp, hd]; rfl)
      refine RC.region rfl ?_
      refine RL.ev (.move rfl) rfl rfl ?_
      refine RL.ev (.move rfl) rfl rfl ?_
      refine RL.ev (.move rfl) rfl rfl ?_
      refine RL.ev (.buildS ze45 pl45 rfl rfl) rfl rfl ?_
      refine RL.buildSlice1 sl22 _ ze45 rfl rfl rfl rfl rfl rfl rfl (fun b_47 w_47 e_47 z_47 hb_47 s_47 => ?_)
      have ge_47 := S.le e_47
      have d_o7_b_47 := o7.neNew e_47
      have S := S.trans s_47
      have o7 := o7.sub s_47
      have szB := Nat.le_trans szB s_47.size
      have sz_48 := S.size
      have ltb_47_48 := hb_47.lt
      refine RL.append2 (base := w.heap.size) (rows := o.map It.cells) (news := [_]) sl22 ze45 rfl rfl rfl rfl (.inl o7) (Has.slOne hb_47) rfl (by intro r hr; rw [List.mem_singleton] at hr; subst hr; rfl) rfl (by (try simp only [List.length_map, List.length_nil, List.length_append, List.length_cons]); omega) (by (try simp only [List.length_map, List.length_nil, List.length_append, List.length_cons]); omega) (by omega) rfl rfl (fun v_48 w_48 hc_48 ho_48 ag_48 ob_48 => ?_)
      have o48 := ho_48 (.inl (by simp))
      rw [show _ ++ [_] = ((o ++ [(⟨key, v⟩ : It)]).map It.cells) from by rw [List.map_append]; rfl] at o48
      have S := S.agrN ag_48 (fun k e => Nat.le_trans (by omega) e.2)
      have szB := Nat.le_trans szB ag_48.size
      obtain ⟨a_48, c_48, rfl, k_48⟩ := o48.form
      refine RL.ev (.assign rfl) rfl rfl ?_
      refine RL.nil (RC.back ?_)
      refine RC.seq ?_
      refine RC.region rfl ?_
      refine RL.ev (.move rfl) rfl rfl ?_
      refine RL.ev (.assign rfl) rfl rfl ?_
      refine RL.nil (RC.back ?_)
      refine RC.done (rs := [.tmp 6]) (vs := [_]) rfl rfl ⟨rfl, trivial⟩ ?_
      -- end 1
      rw [hres]
      exact ⟨_, _, rfl, o48, S⟩
    ·
      have hd : d = true := (by simpa using h8)
      have hres : putR l key v = o := (by rw [putR, hp, hd]; rfl)
      refine RC.skip (RC.back ?_)
      refine RC.seq ?_
      refine RC.region rfl ?_
      refine RL.ev (.move rfl) rfl rfl ?_
      refine RL.ev (.assign rfl) rfl rfl ?_
      refine RL.nil (RC.back ?_)
      refine RC.done (rs := [.tmp 6]) (vs := [_]) rfl rfl ⟨rfl, trivial⟩ ?_
      -- end 2
      rw [hres]
      exact ⟨_, _, rfl, o7, S⟩
theorem filter_take {p : It → Bool} {l : List It} {i : Nat} {x : It} (h : l[i]? = some x) : (l.take (i + 1)).filter p = (l.take i).filter p ++ (if p x then [x] else []) := by
  rw [List.take_add_one, h]
  simp only [Option.toList, List.filter_append, List.filter_cons, List.filter_nil]
theorem c_refBelow (l : List It) (a : Option Addr) (c m : Nat) (hm : m = l.length) (key : Int) (w : World) (hl : Sl w a 2 (l.map It.cells)) (hb : l.length ≤ 1000000) :
    FC Try.prog 53 [.slice a m c, .int .i64 key] w (fun u w' => ∃ a' c', u = .slice a' ((l.filter fun x => decide (x.k < key)).map It.cells).length c' ∧ Ows w.heap.size w' 45 2 (.slice a' ((l.filter fun x => decide (x.k < key)).map It.cells).length c') ((l.filter fun x => decide (x.k < key)).map It.cells) ∧ Sub w w') := by
  subst hm
  refine FC.intro Try.func53 rfl Try.ntmps53 rfl ?_
  have S := Sub.refl w
  refine RC.seq ?_
  refine RC.region rfl ?_
  refine RL.ev (.assign rfl) rfl rfl ?_
  refine RL.nil (RC.back ?_)
  refine RC.seq ?_
  refine RC.region rfl ?_
  refine RL.buildSlice0 sl22 rfl rfl (fun b_8 w_8 e_8 z_8 hb_8 s_8 => ?_)
  have ge_8 := S.le e_8
  have S := S.trans s_8
  refine RL.ev (.assign rfl) rfl rfl ?_
  refine RL.nil (RC.back ?_)
  refine RC.seq ?_
  refine RC.seq ?_
  refine RC.region rfl ?_
  refine RL.ev (.move rfl) rfl rfl ?_
  refine RL.ev (.len sl22 rfl) rfl rfl ?_
  refine RL.ev (.move rfl) rfl rfl ?_
  refine RL.nil (RC.back ?_)
  refine RC.block ?_
  refine RC.loop (α := Nat × List It × Option Addr × Nat × Nat) (fun x => [(1, .int .i64 key), (5, .slice x.2.2.1 x.2.2.2.1 x.2.2.2.2), (9, .slice a l.length c), (10, .int .i64 (l.length : Int)), (11, .int .i64 (x.1 : Int))]) (fun x w1 => (x.1 ≤ l.length ∧ x.2.1 = (l.take x.1).filter (fun x => decide (x.k < key))) ∧ Ows w.heap.size w1 45 2 (.slice x.2.2.1 x.2.2.2.1 x.2.2.2.2) (x.2.1.map It.cells) ∧ Sub w w1) (fun x => l.length - x.1) (0, [], some ⟨b_8, 0, none⟩, 0, 0) (keep_of (by repeat (first | exact trivial | refine And.intro rfl ?_))) (⟨⟨Nat.zero_le _, rfl⟩, Ows.lit0 hb_8 (by omega), S⟩) (fun x w1 hJ => ?_)
  obtain ⟨i, o, ao, mo, co⟩ := x; obtain ⟨⟨hi, hp⟩, o7, S⟩ := hJ; simp only [] at hi hp o7; obtain rfl := o7.sl.2; have hol : o.length ≤ i := (by rw [hp]; exact Nat.le_trans (List.length_filter_le _ _) (by rw [List.length_take]; omega)); have szB := S.size
  refine RC.seq ?_
  refine RC.region rfl ?_
  refine RL.ev (.bin rfl rfl rfl) rfl rfl ?_
  refine RL.nil (RC.back ?_)
  refine RC.seq ?_
  refine RC.cond_dec rfl (fun h2 => ?_) (fun h2 => ?_)
  ·
    obtain ⟨x, hx⟩ := getSome (l := l) (i := i) (by omega)
    have hst := filter_take (p := fun x => decide (x.k < key)) hx
    rw [← hp] at hst
    refine RC.skip (RC.back ?_)
    refine RC.seq ?_
    refine RC.block ?_
    refine RC.seq ?_
    refine RC.region rfl ?_
    refine RL.ev (.indexS sl22 rfl rfl (by omega) (hl.is (i := 0) (by simp only [List.length_map, List.length_cons, List.length_nil]; omega))) rfl rfl ?_
    refine RL.ev (.loadR (x.cells) sh45 rfl ((hl.sub S).rowAt (enc := It.cells) (i := i) hx) rfl) rfl rfl ?_
    refine RL.alloc ze45 rfl rfl (fun b_7 w_7 e_7 z_7 hb_7 s_7 => ?_)
    have ge_7 := S.le e_7
    have d_o7_b_7 := o7.neNew e_7
    have S := S.trans s_7
    have o7 := o7.sub s_7
    have szB := Nat.le_trans szB s_7.size
    refine RL.store sh45 rfl rfl rfl hb_7 (by exact Nat.le_of_ble_eq_true rfl) (by rfl) rfl (fun w3 z3 hb_7 a3 => ?_)
    have S := S.upd a3 ge_7
    have o7 := o7.updD a3 d_o7_b_7
    have szB := Nat.le_trans szB a3.size
    have hb_7 : Has w3 b_7 (x.cells) _ := hb_7.now (by kernel_rfl)
    refine RL.nil (RC.back ?_)
    refine RC.seq ?_
    refine RC.region rfl ?_
    refine RL.ev (.field0 fo45_0 rfl) rfl rfl ?_
    refine RL.ev (.load1 sh2 rfl (hb_7.cell rfl)) rfl rfl ?_
    refine RL.ev (.move rfl) rfl rfl ?_
    refine RL.ev (.bin rfl rfl rfl) rfl rfl ?_
    refine RL.nil (RC.back ?_)
    refine RC.cond_dec rfl (fun h4 => ?_) (fun h4 => ?_)
    ·
      have hk := h4
      rw [if_pos (decide_eq_true hk)] at hst
      refine RC.region rfl ?_
      refine RL.ev (.move rfl) rfl rfl ?_
      refine RL.ev (.loadR (x.cells) sh45 rfl hb_7.row rfl) rfl rfl ?_
      refine RL.buildSlice1 sl22 _ ze45 rfl rfl rfl rfl rfl rfl rfl (fun b_21 w_21 e_21 z_21 hb_21 s_21 => ?_)
      have ge_21 := S.le e_21
      have n_7__21 := hb_7.ne e_21
      have d_o7_b_21 := o7.neNew e_21
      have S := S.trans s_21
      have o7 := o7.sub s_21
      have szB := Nat.le_trans szB s_21.size
      have hb_7 := hb_7.sub s_21
      have sz_22 := S.size
      have ltb_7_22 := hb_7.lt
      have ltb_21_22 := hb_21.lt
      refine RL.append2 (base := w.heap.size) (rows := o.map It.cells) (news := [_]) sl22 ze45 rfl rfl rfl rfl (.inl o7) (Has.slOne hb_21) rfl (by intro r hr; rw [List.mem_singleton] at hr; subst hr; rfl) rfl (by (try simp only [List.length_map, List.length_nil, List.length_append, List.length_cons]); omega) (by (try simp only [List.length_map, List.length_nil, List.length_append, List.length_cons]); omega) (by omega) rfl rfl (fun v_22 w_22 hc_22 ho_22 ag_22 ob_22 => ?_)
      have o22 := ho_22 (.inl (by simp))
      rw [show _ ++ [_] = ((o ++ [x]).map It.cells) from by rw [List.map_append]; rfl] at o22
      have d_o22_b_7 := obNe ob_22 d_o7_b_7 hb_7.lt
      have S := S.agrN ag_22 (fun k e => Nat.le_trans (by omega) e.2)
      have szB := Nat.le_trans szB ag_22.size
      have hb_7 := hb_7.step ag_22 (fun e => d_o7_b_7 _ e.1 rfl)
      obtain ⟨a_22, c_22, rfl, k_22⟩ := o22.form
      refine RL.ev (.assign rfl) rfl rfl ?_
      refine RL.nil (RC.back ?_)
      refine RC.region rfl ?_
      refine RL.ev (.as (.bin rfl rfl rfl) (wi64 (y := ((i + 1 : Nat) : Int)) (by omega) (by omega))) rfl rfl ?_
      refine RL.ev (.move rfl) rfl rfl ?_
      exact RL.nil (fun a ka => ⟨(i + 1, o ++ [x], a_22, _, c_22), ⟨⟨by omega, hst.symm⟩, o22, S⟩, by omega, ka.keep (keep_of (by repeat (first | exact trivial | refine And.intro rfl ?_)))⟩)
    ·
      have hk := h4
      rw [if_neg (fun e => hk (of_decide_eq_true e)), List.append_nil] at hst
      refine RC.skip (RC.back ?_)
      refine RC.region rfl ?_
      refine RL.ev (.as (.bin rfl rfl rfl) (wi64 (y := ((i + 1 : Nat) : Int)) (by omega) (by omega))) rfl rfl ?_
      refine RL.ev (.move rfl) rfl rfl ?_
      exact RL.nil (fun a ka => ⟨(i + 1, o, ao, _, co), ⟨⟨by omega, hst.symm⟩, o7, S⟩, by omega, ka.keep (keep_of (by repeat (first | exact trivial | refine And.intro rfl ?_)))⟩)
  ·
    obtain rfl : i = l.length := (by omega)
    rw [List.take_length] at hp
    refine RC.exit rfl (RC.back ?_)
    refine RC.seq ?_
    refine RC.region rfl ?_
    refine RL.ev (.move rfl) rfl rfl ?_
    refine RL.ev (.assign rfl) rfl rfl ?_
    refine RL.nil (RC.back ?_)
    refine RC.done (rs := [.tmp 4]) (vs := [_]) rfl rfl ⟨rfl, trivial⟩ ?_
    -- end 1
    rw [← hp]
    exact ⟨_, _, rfl, o7, S⟩
end Go.Proofs.Ytjafbffehmombaa
