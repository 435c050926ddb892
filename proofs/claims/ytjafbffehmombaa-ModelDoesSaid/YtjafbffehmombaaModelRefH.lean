/-
  The reference of the layer model: heaps.
-/
import Derived.Test.YtjafbffehmombaaModelH
set_option linter.unusedVariables false
set_option linter.unusedSimpArgs false
namespace Go.Proofs.Ytjafbffehmombaa
open Go Go.XL

/-- a reference's answer -/
def AnsR (M : Nat → Prop) (w w' : World) (q : List It × ResT) (u : Value) : Prop := Sub w w' ∧ ∃ a' c' M', u = .agg #[.slice a' q.1.length c', .int .i64 q.2.e, .int .i64 q.2.a, .int .i64 q.2.b] ∧ q.1.length ≤ c' ∧ Ft M' (fun u => Sl u a' 2 (q.1.map It.cells)) w' ∧ Up M w M'
theorem c_with (l : List It) (x : It) (a : Option Addr) (c m : Nat) (hm : m = l.length) (hc : l.length ≤ c) (w : World) (hl : Sl w a 2 (l.map It.cells)) (hb : l.length ≤ 1000000) :
    FC Try.prog 56 [.slice a m c, x.val] w (fun u w' => Sub w w' ∧ ∃ a' c', u = .slice a' (l.length + 1) c' ∧ l.length + 1 ≤ c' ∧ Ows w.heap.size w' 45 2 (.slice a' (l.length + 1) c') ((l.take (whN l x) ++ x :: l.drop (whN l x)).map It.cells)) := by
  subst hm
  refine FC.intro Try.func56 rfl Try.ntmps56 rfl ?_
  have S := Sub.refl w
  refine RC.seq ?_
  refine RC.region rfl ?_
  refine RL.box rfl rfl rfl (fun b_3 w_3 e_3 z_3 hb_3 s_3 => ?_)
  have ge_3 := S.le e_3
  have S := S.trans s_3
  have hb_3 : Has w_3 b_3 ([.int .i64 x.k, .int .i64 x.v]) _ := hb_3
  refine RL.ev (.assign rfl) rfl rfl ?_
  refine RL.nil (RC.back ?_)
  refine RC.seq ?_
  refine RC.region rfl ?_
  refine RL.ev (.assign rfl) rfl rfl ?_
  refine RL.nil (RC.back ?_)
  refine RC.seq ?_
  refine RC.block ?_
  refine RC.loop (α := Nat) (fun i => [(0, .slice a l.length c), (3, .pointer (some ⟨b_3, 0, none⟩)), (5, .int .i64 (i : Int))]) (fun i w1 => (i ≤ l.length ∧ ∀ k z, k < i → l[k]? = some z → lessP z x) ∧ Has w1 b_3 [.int .i64 x.k, .int .i64 x.v] 45 ∧ Sub w w1) (fun i => l.length - i) 0 (keep_of (by repeat (first | exact trivial | refine And.intro rfl ?_))) (⟨⟨Nat.zero_le _, fun k z h => absurd h (Nat.not_lt_zero _)⟩, hb_3, S⟩) (fun i w1 hJ => ?_)
  obtain ⟨⟨hi, hp⟩, hb_3, S⟩ := hJ; have htl : (l.take i).length ≤ l.length := (by rw [List.length_take]; omega); have hdl : (l.drop i).length ≤ l.length := (by rw [List.length_drop]; omega)
  refine RC.seq ?_
  refine RC.seq ?_
  refine RC.draw rfl mxo (by kernel_rfl) ?_
  refine RQ.ev (.move rfl) rfl rfl ?_
  refine RQ.ev (.move rfl) rfl rfl ?_
  refine RQ.ev (.len sl22 rfl) rfl rfl ?_
  refine RQ.ev (.bin rfl rfl rfl) rfl rfl ?_
  refine RQ.ev (.move rfl) rfl rfl ?_
  refine RQ.split 11 rfl (fun h2 => ?_) (fun h2 => ?_)
  ·
    have h11 : i < l.length := (by omega)
    obtain ⟨y, hy⟩ := getSome (l := l) (i := i) h11
    refine RQ.ev (.move rfl) rfl rfl ?_
    refine RQ.ev (.move rfl) rfl rfl ?_
    refine RQ.ev (.indexS sl22 rfl rfl (by omega) (hl.is (i := 0) (by simp only [List.length_map, List.length_cons, List.length_nil]; omega))) rfl rfl ?_
    refine RQ.ev (.loadR ([.int .i64 y.k, .int .i64 y.v]) sh45 rfl ((hl.sub S).rowAt (enc := It.cells) (i := i) hy) rfl) rfl rfl ?_
    refine RQ.ev (.loadR ([.int .i64 x.k, .int .i64 x.v]) sh45 rfl hb_3.row rfl) rfl rfl ?_
    refine RQ.call rfl ok27 (fun w' s' => c_refLess y x w') rfl rfl ?_
    refine RQ.ev (.pick_t rfl rfl) rfl rfl ?_
    refine RQ.nil (fun w3 s4 => RC.back ?_)
    have S := S.trans s4
    have hb_3 := hb_3.sub s4
    refine RC.cond rfl (fun h5 => ?_) (fun h5 => ?_)
    ·
      have h18 : lessP y x := of_decide_eq_true h5
      refine RC.skip (RC.back ?_)
      refine RC.block ?_
      refine RC.region rfl ?_
      refine RL.ev (.move rfl) rfl rfl ?_
      refine RL.ev (.as (.bin rfl rfl rfl) (wi64 (y := ((i + 1 : Nat) : Int)) (by omega) (by omega))) rfl rfl ?_
      refine RL.ev (.assign rfl) rfl rfl ?_
      exact RL.nil (fun a ka => ⟨i + 1, ⟨⟨by omega, fun k z hk hz => by rcases Nat.lt_or_ge k i with q | q; exact hp k z q hz; obtain rfl : k = i := (by omega); rw [hy] at hz; cases hz; exact h18⟩, hb_3, S⟩, by omega, ka.keep (keep_of (by repeat (first | exact trivial | refine And.intro rfl ?_)))⟩)
    ·
      have h18 : ¬ lessP y x := of_decide_eq_false h5
      have hwn : whN l x = i := whN_of hi hp (fun z hz => by rw [hy] at hz; cases hz; exact h18)
      refine RC.exit rfl (RC.back ?_)
      refine RC.seq ?_
      refine RC.region rfl ?_
      refine RL.buildSlice0 sl22 rfl rfl (fun b_21 w_21 e_21 z_21 hb_21 s_21 => ?_)
      have ge_21 := S.le e_21
      have n_3__21 := hb_3.ne e_21
      have S := S.trans s_21
      have hb_3 := hb_3.sub s_21
      refine RL.ev (.assign rfl) rfl rfl ?_
      refine RL.nil (RC.back ?_)
      refine RC.seq ?_
      refine RC.region rfl ?_
      refine RL.ev (.move rfl) rfl rfl ?_
      refine RL.ev (.move rfl) rfl rfl ?_
      refine RL.ev (.move rfl) rfl rfl ?_
      refine RL.ev (.as (v' := .slice a ((l.take i).map It.cells).length c) (.sliceHi sl22 rfl rfl (by omega)) (by rw [List.length_map, List.length_take, Nat.min_eq_left hi]; rfl)) rfl rfl ?_
      have sz_26 := S.size
      have ltb_3_26 := hb_3.lt
      have ltb_21_26 := hb_21.lt
      refine RL.append2 (base := w.heap.size) (rows := []) (news := (l.take i).map It.cells) sl22 ze45 rfl rfl rfl rfl (.inl (Ows.lit0 hb_21 (by omega))) (slTakeM (hl.sub S) i) (by (try simp only [List.length_map]); first | done | rfl) (by intro r hr; obtain ⟨x, _, rfl⟩ := List.mem_map.1 hr; rfl) (by rw [List.all_eq_true]; intro r hr; obtain ⟨x, _, rfl⟩ := List.mem_map.1 hr; rfl) (by (try simp only [List.length_map, List.length_nil, List.length_append, List.length_cons]); omega) (by (try simp only [List.length_map, List.length_nil, List.length_append, List.length_cons]); omega) (by omega) rfl rfl (fun v_26 w_26 hc_26 ho_26 ag_26 ob_26 => ?_)
      have o26 := ho_26 (.inr (Ows.lit0 hb_21 (by omega)))
      have d_o26_b_3 := obNe ob_26 (fun k hk e => n_3__21.symm ((obLit hk).trans e)) hb_3.lt
      have S := S.agrN ag_26 (fun k e => Nat.le_trans (by omega) e.2)
      have hb_3 := hb_3.step ag_26 (fun e => n_3__21.symm (obLit e.1))
      obtain ⟨a_26, c_26, rfl, k_26⟩ := o26.form
      refine RL.ev (.assign rfl) rfl rfl ?_
      refine RL.nil (RC.back ?_)
      refine RC.seq ?_
      refine RC.region rfl ?_
      refine RL.ev (.move rfl) rfl rfl ?_
      refine RL.ev (.loadR ([.int .i64 x.k, .int .i64 x.v]) sh45 rfl hb_3.row rfl) rfl rfl ?_
      refine RL.buildSlice1 sl22 _ ze45 rfl rfl rfl rfl rfl rfl rfl (fun b_29 w_29 e_29 z_29 hb_29 s_29 => ?_)
      have ge_29 := S.le e_29
      have n_3__29 := hb_3.ne e_29
      have d_o26_b_29 := o26.neNew e_29
      have S := S.trans s_29
      have hb_3 := hb_3.sub s_29
      have o26 := o26.sub s_29
      have sz_30 := S.size
      have ltb_3_30 := hb_3.lt
      have ltb_29_30 := hb_29.lt
      refine RL.append2 (base := w.heap.size) (rows := (l.take i).map It.cells) (news := [_]) sl22 ze45 rfl rfl rfl rfl (.inl o26) (Has.slOne hb_29) rfl (by intro r hr; rw [List.mem_singleton] at hr; subst hr; rfl) rfl (by (try simp only [List.length_map, List.length_nil, List.length_append, List.length_cons]); omega) (by (try simp only [List.length_map, List.length_nil, List.length_append, List.length_cons]); omega) (by omega) rfl rfl (fun v_30 w_30 hc_30 ho_30 ag_30 ob_30 => ?_)
      have o30 := ho_30 (.inl (by simp))
      rw [show _ ++ [_] = (((l.take i) ++ [x]).map It.cells) from by rw [List.map_append]; rfl] at o30
      have d_o30_b_3 := obNe ob_30 d_o26_b_3 hb_3.lt
      have S := S.agrN ag_30 (fun k e => Nat.le_trans (by omega) e.2)
      have hb_3 := hb_3.step ag_30 (fun e => d_o26_b_3 _ e.1 rfl)
      obtain ⟨a_30, c_30, rfl, k_30⟩ := o30.form
      refine RL.ev (.assign rfl) rfl rfl ?_
      refine RL.nil (RC.back ?_)
      refine RC.seq ?_
      refine RC.region rfl ?_
      refine RL.ev (.move rfl) rfl rfl ?_
      refine RL.ev (.move rfl) rfl rfl ?_
      refine RL.ev (.move rfl) rfl rfl ?_
      refine RL.ev (.as (v' := .slice (if c = i then a else a.map (·.add (i * 2))) ((l.drop i).map It.cells).length (c - i)) (.sliceLo sl22 rfl rfl (by omega)) (by rw [List.length_map, List.length_drop]; rfl)) rfl rfl ?_
      have sz_35 := S.size
      have ltb_3_35 := hb_3.lt
      refine RL.append2 (base := w.heap.size) (rows := ((l.take i) ++ [x]).map It.cells) (news := (l.drop i).map It.cells) sl22 ze45 rfl rfl rfl rfl (.inl o30) (slDropM (hl.sub S) i hc) (by (try simp only [List.length_map]); first | done | rfl) (by intro r hr; obtain ⟨x, _, rfl⟩ := List.mem_map.1 hr; rfl) (by rw [List.all_eq_true]; intro r hr; obtain ⟨x, _, rfl⟩ := List.mem_map.1 hr; rfl) (by (try simp only [List.length_map, List.length_nil, List.length_append, List.length_cons]); omega) (by (try simp only [List.length_map, List.length_nil, List.length_append, List.length_cons]); omega) (by omega) rfl rfl (fun v_35 w_35 hc_35 ho_35 ag_35 ob_35 => ?_)
      have o35 := ho_35 (.inr o30)
      have d_o35_b_3 := obNe ob_35 d_o30_b_3 hb_3.lt
      have S := S.agrN ag_35 (fun k e => Nat.le_trans (by omega) e.2)
      have hb_3 := hb_3.step ag_35 (fun e => d_o30_b_3 _ e.1 rfl)
      obtain ⟨a_35, c_35, rfl, k_35⟩ := o35.form
      refine RL.ev (.assign rfl) rfl rfl ?_
      refine RL.nil (RC.back ?_)
      refine RC.seq ?_
      refine RC.region rfl ?_
      refine RL.ev (.move rfl) rfl rfl ?_
      refine RL.ev (.assign rfl) rfl rfl ?_
      refine RL.nil (RC.back ?_)
      refine RC.done (rs := [.tmp 4]) (vs := [_]) rfl rfl ⟨rfl, trivial⟩ ?_
      -- end 1
      have hrw : ((l.take i ++ [x]).map It.cells ++ (l.drop i).map It.cells) = (l.take i ++ x :: l.drop i).map It.cells := (by simp)
      have hln : ((l.take i ++ x :: l.drop i).map It.cells).length = l.length + 1 := (by rw [List.length_map, List.length_append, List.length_cons, List.length_take, List.length_drop]; omega)
      have q := k_35
      rw [hrw, hln] at o35 q
      rw [hwn]
      exact ⟨S, a_35, c_35, by rw [hrw, hln]; rfl, q, o35⟩
  ·
    have h11 : i = l.length := (by omega)
    have hwn : whN l x = i := whN_of hi hp (fun z hz => absurd (lt_of_get hz) (by omega))
    refine RQ.off rfl rfl ?_
    refine RQ.off rfl rfl ?_
    refine RQ.off rfl rfl ?_
    refine RQ.off rfl rfl ?_
    refine RQ.off rfl rfl ?_
    refine RQ.off rfl rfl ?_
    refine RQ.ev (.pick_f rfl rfl) rfl rfl ?_
    refine RQ.nil (fun w6 s7 => RC.back ?_)
    have S := S.trans s7
    have hb_3 := hb_3.sub s7
    refine RC.cond_f rfl ?_
    refine RC.exit rfl (RC.back ?_)
    refine RC.seq ?_
    refine RC.region rfl ?_
    refine RL.buildSlice0 sl22 rfl rfl (fun b_21 w_21 e_21 z_21 hb_21 s_21 => ?_)
    have ge_21 := S.le e_21
    have n_3__21 := hb_3.ne e_21
    have S := S.trans s_21
    have hb_3 := hb_3.sub s_21
    refine RL.ev (.assign rfl) rfl rfl ?_
    refine RL.nil (RC.back ?_)
    refine RC.seq ?_
    refine RC.region rfl ?_
    refine RL.ev (.move rfl) rfl rfl ?_
    refine RL.ev (.move rfl) rfl rfl ?_
    refine RL.ev (.move rfl) rfl rfl ?_
    refine RL.ev (.as (v' := .slice a ((l.take i).map It.cells).length c) (.sliceHi sl22 rfl rfl (by omega)) (by rw [List.length_map, List.length_take, Nat.min_eq_left hi]; rfl)) rfl rfl ?_
    have sz_26 := S.size
    have ltb_3_26 := hb_3.lt
    have ltb_21_26 := hb_21.lt
    refine RL.append2 (base := w.heap.size) (rows := []) (news := (l.take i).map It.cells) sl22 ze45 rfl rfl rfl rfl (.inl (Ows.lit0 hb_21 (by omega))) (slTakeM (hl.sub S) i) (by (try simp only [List.length_map]); first | done | rfl) (by intro r hr; obtain ⟨x, _, rfl⟩ := List.mem_map.1 hr; rfl) (by rw [List.all_eq_true]; intro r hr; obtain ⟨x, _, rfl⟩ := List.mem_map.1 hr; rfl) (by (try simp only [List.length_map, List.length_nil, List.length_append, List.length_cons]); omega) (by (try simp only [List.length_map, List.length_nil, List.length_append, List.length_cons]); omega) (by omega) rfl rfl (fun v_26 w_26 hc_26 ho_26 ag_26 ob_26 => ?_)
    have o26 := ho_26 (.inr (Ows.lit0 hb_21 (by omega)))
    have d_o26_b_3 := obNe ob_26 (fun k hk e => n_3__21.symm ((obLit hk).trans e)) hb_3.lt
    have S := S.agrN ag_26 (fun k e => Nat.le_trans (by omega) e.2)
    have hb_3 := hb_3.step ag_26 (fun e => n_3__21.symm (obLit e.1))
    obtain ⟨a_26, c_26, rfl, k_26⟩ := o26.form
    refine RL.ev (.assign rfl) rfl rfl ?_
    refine RL.nil (RC.back ?_)
    refine RC.seq ?_
    refine RC.region rfl ?_
    refine RL.ev (.move rfl) rfl rfl ?_
    refine RL.ev (.loadR ([.int .i64 x.k, .int .i64 x.v]) sh45 rfl hb_3.row rfl) rfl rfl ?_
    refine RL.buildSlice1 sl22 _ ze45 rfl rfl rfl rfl rfl rfl rfl (fun b_29 w_29 e_29 z_29 hb_29 s_29 => ?_)
    have ge_29 := S.le e_29
    have n_3__29 := hb_3.ne e_29
    have d_o26_b_29 := o26.neNew e_29
    have S := S.trans s_29
    have hb_3 := hb_3.sub s_29
    have o26 := o26.sub s_29
    have sz_30 := S.size
    have ltb_3_30 := hb_3.lt
    have ltb_29_30 := hb_29.lt
    refine RL.append2 (base := w.heap.size) (rows := (l.take i).map It.cells) (news := [_]) sl22 ze45 rfl rfl rfl rfl (.inl o26) (Has.slOne hb_29) rfl (by intro r hr; rw [List.mem_singleton] at hr; subst hr; rfl) rfl (by (try simp only [List.length_map, List.length_nil, List.length_append, List.length_cons]); omega) (by (try simp only [List.length_map, List.length_nil, List.length_append, List.length_cons]); omega) (by omega) rfl rfl (fun v_30 w_30 hc_30 ho_30 ag_30 ob_30 => ?_)
    have o30 := ho_30 (.inl (by simp))
    rw [show _ ++ [_] = (((l.take i) ++ [x]).map It.cells) from by rw [List.map_append]; rfl] at o30
    have d_o30_b_3 := obNe ob_30 d_o26_b_3 hb_3.lt
    have S := S.agrN ag_30 (fun k e => Nat.le_trans (by omega) e.2)
    have hb_3 := hb_3.step ag_30 (fun e => d_o26_b_3 _ e.1 rfl)
    obtain ⟨a_30, c_30, rfl, k_30⟩ := o30.form
    refine RL.ev (.assign rfl) rfl rfl ?_
    refine RL.nil (RC.back ?_)
    refine RC.seq ?_
    refine RC.region rfl ?_
    refine RL.ev (.move rfl) rfl rfl ?_
    refine RL.ev (.move rfl) rfl rfl ?_
    refine RL.ev (.move rfl) rfl rfl ?_
    refine RL.ev (.as (v' := .slice (if c = i then a else a.map (·.add (i * 2))) ((l.drop i).map It.cells).length (c - i)) (.sliceLo sl22 rfl rfl (by omega)) (by rw [List.length_map, List.length_drop]; rfl)) rfl rfl ?_
    have sz_35 := S.size
    have ltb_3_35 := hb_3.lt
    refine RL.append2 (base := w.heap.size) (rows := ((l.take i) ++ [x]).map It.cells) (news := (l.drop i).map It.cells) sl22 ze45 rfl rfl rfl rfl (.inl o30) (slDropM (hl.sub S) i hc) (by (try simp only [List.length_map]); first | done | rfl) (by intro r hr; obtain ⟨x, _, rfl⟩ := List.mem_map.1 hr; rfl) (by rw [List.all_eq_true]; intro r hr; obtain ⟨x, _, rfl⟩ := List.mem_map.1 hr; rfl) (by (try simp only [List.length_map, List.length_nil, List.length_append, List.length_cons]); omega) (by (try simp only [List.length_map, List.length_nil, List.length_append, List.length_cons]); omega) (by omega) rfl rfl (fun v_35 w_35 hc_35 ho_35 ag_35 ob_35 => ?_)
    have o35 := ho_35 (.inr o30)
    have d_o35_b_3 := obNe ob_35 d_o30_b_3 hb_3.lt
    have S := S.agrN ag_35 (fun k e => Nat.le_trans (by omega) e.2)
    have hb_3 := hb_3.step ag_35 (fun e => d_o30_b_3 _ e.1 rfl)
    obtain ⟨a_35, c_35, rfl, k_35⟩ := o35.form
    refine RL.ev (.assign rfl) rfl rfl ?_
    refine RL.nil (RC.back ?_)
    refine RC.seq ?_
    refine RC.region rfl ?_
    refine RL.ev (.move rfl) rfl rfl ?_
    refine RL.ev (.assign rfl) rfl rfl ?_
    refine RL.nil (RC.back ?_)
    refine RC.done (rs := [.tmp 4]) (vs := [_]) rfl rfl ⟨rfl, trivial⟩ ?_
    -- end 2
    have hrw : ((l.take i ++ [x]).map It.cells ++ (l.drop i).map It.cells) = (l.take i ++ x :: l.drop i).map It.cells := (by simp)
    have hln : ((l.take i ++ x :: l.drop i).map It.cells).length = l.length + 1 := (by rw [List.length_map, List.length_append, List.length_cons, List.length_take, List.length_drop]; omega)
    have q := k_35
    rw [hrw, hln] at o35 q
    rw [hwn]
    exact ⟨S, a_35, c_35, by rw [hrw, hln]; rfl, q, o35⟩
theorem c_refHeap (l : List It) (a : Option Addr) (c m : Nat) (hm : m = l.length) (hl200 : l.length ≤ 200) (hc : l.length ≤ c) (o : OpT) (hok : okP o) (w : World) (M : Nat → Prop) (hF : Ft M (fun u => Sl u a 2 (l.map It.cells)) w) :
    FC Try.prog 37 [.slice a m c, .agg o.cells.toArray] w (fun u w' => AnsR M w w' (heapM l o) u) := by
  subst hm
  have hl := hF.now
  refine FC.intro Try.func37 rfl Try.ntmps37 rfl ?_
  have S := Sub.refl w
  refine RC.seq ?_
  refine RC.region rfl ?_
  refine RL.box rfl rfl rfl (fun b_3 w_3 e_3 z_3 hb_3 s_3 => ?_)
  have ge_3 := S.le e_3
  have S := S.trans s_3
  have hb_3 : Has w_3 b_3 ([.int .i64 o.box, .int .i64 o.kind, .int .i64 o.a, .int .i64 o.b]) _ := hb_3
  refine RL.alloc ze65 rfl rfl (fun b_4 w_4 e_4 z_4 hb_4 s_4 => ?_)
  have ge_4 := S.le e_4
  have n_3__4 := hb_3.ne e_4
  have S := S.trans s_4
  have hb_3 := hb_3.sub s_4
  refine RL.nil (RC.back ?_)
  refine RC.seq ?_
  refine RC.seq ?_
  refine RC.region rfl ?_
  refine RL.ev (.field0 fo34_1 rfl) rfl rfl ?_
  refine RL.ev (.load1 sh3 rfl (hb_3.cell rfl)) rfl rfl ?_
  refine RL.ev (.bin rfl rfl rfl) rfl rfl ?_
  refine RL.nil (RC.back ?_)
  refine RC.cond_dec rfl (fun h1 => ?_) (fun h1 => ?_)
  ·
    have k10 := h1
    refine RC.seq ?_
    refine RC.region rfl ?_
    refine RL.ev (.move rfl) rfl rfl ?_
    refine RL.ev (.move rfl) rfl rfl ?_
    refine RL.ev (.len sl22 rfl) rfl rfl ?_
    refine RL.ev (.as (v' := .agg #[.int .i64 0, .int .i64 (l.length : Int), .int .i64 0]) (.buildS ze39 pl39 rfl rfl) (by kernel_rfl)) rfl rfl ?_
    refine RL.ev (.as (v' := .agg #[.slice a l.length c, .int .i64 0, .int .i64 (l.length : Int), .int .i64 0]) (.buildS ze65 pl65 rfl rfl) (by kernel_rfl)) rfl rfl ?_
    refine RL.store sh65 rfl rfl rfl hb_4 (by exact Nat.le_of_ble_eq_true rfl) (by rfl) rfl (fun w2 z2 hb_4 a2 => ?_)
    have S := S.upd a2 ge_4
    have hb_3 := hb_3.upd a2 n_3__4
    have hb_4 : Has w2 b_4 ([.slice a l.length c, .int .i64 0, .int .i64 (l.length : Int), .int .i64 0]) _ := hb_4.now (by kernel_rfl)
    refine RL.nil (RC.back ?_)
    refine RC.done (rs := [.cell 4 65]) (vs := [_]) rfl rfl ⟨⟨_, rfl, .inr ⟨[.slice a l.length c, .int .i64 0, .int .i64 (l.length : Int), .int .i64 0], sh65, hb_4.row, rfl⟩⟩, trivial⟩ ?_
    -- end 1
    have he : heapM l o = (l, ⟨0, l.length, 0⟩) := (by rw [heapM, if_pos k10])
    rw [he]
    exact ⟨S, _, _, M, rfl, hc, hF.sub S, Up.refl _ _⟩
  ·
    have n10 := h1
    refine RC.skip (RC.back ?_)
    refine RC.seq ?_
    refine RC.seq ?_
    refine RC.region rfl ?_
    refine RL.ev (.field0 fo34_1 rfl) rfl rfl ?_
    refine RL.ev (.load1 sh3 rfl (hb_3.cell rfl)) rfl rfl ?_
    refine RL.ev (.bin rfl rfl rfl) rfl rfl ?_
    refine RL.nil (RC.back ?_)
    refine RC.cond_dec rfl (fun h3 => ?_) (fun h3 => ?_)
    ·
      have k22 := h3
      refine RC.seq ?_
      refine RC.seq ?_
      refine RC.region rfl ?_
      refine RL.ev (.move rfl) rfl rfl ?_
      refine RL.ev (.len sl22 rfl) rfl rfl ?_
      refine RL.ev (.bin rfl rfl rfl) rfl rfl ?_
      refine RL.nil (RC.back ?_)
      refine RC.cond_dec rfl (fun h4 => ?_) (fun h4 => ?_)
      ·
        have k18 : 200 ≤ l.length := (by omega)
        refine RC.seq ?_
        refine RC.region rfl ?_
        refine RL.ev (.move rfl) rfl rfl ?_
        refine RL.ev (.as (v' := .agg #[.int .i64 5, .int .i64 0, .int .i64 0]) (.buildS ze39 pl39 rfl rfl) (by kernel_rfl)) rfl rfl ?_
        refine RL.ev (.as (v' := .agg #[.slice a l.length c, .int .i64 5, .int .i64 0, .int .i64 0]) (.buildS ze65 pl65 rfl rfl) (by kernel_rfl)) rfl rfl ?_
        refine RL.store sh65 rfl rfl rfl hb_4 (by exact Nat.le_of_ble_eq_true rfl) (by rfl) rfl (fun w5 z5 hb_4 a5 => ?_)
        have S := S.upd a5 ge_4
        have hb_3 := hb_3.upd a5 n_3__4
        have hb_4 : Has w5 b_4 ([.slice a l.length c, .int .i64 5, .int .i64 0, .int .i64 0]) _ := hb_4.now (by kernel_rfl)
        refine RL.nil (RC.back ?_)
        refine RC.done (rs := [.cell 4 65]) (vs := [_]) rfl rfl ⟨⟨_, rfl, .inr ⟨[.slice a l.length c, .int .i64 5, .int .i64 0, .int .i64 0], sh65, hb_4.row, rfl⟩⟩, trivial⟩ ?_
        -- end 2
        have he : heapM l o = (l, ⟨5, 0, 0⟩) := (by rw [heapM, if_neg n10, if_pos k22, if_pos k18])
        rw [he]
        exact ⟨S, _, _, M, rfl, hc, hF.sub S, Up.refl _ _⟩
      ·
        have n18 : ¬ 200 ≤ l.length := (by omega)
        refine RC.skip (RC.back ?_)
        refine RC.seq ?_
        refine RC.region rfl ?_
        refine RL.ev (.move rfl) rfl rfl ?_
        refine RL.ev (.field0 fo34_2 rfl) rfl rfl ?_
        refine RL.ev (.load1 sh2 rfl (hb_3.cell rfl)) rfl rfl ?_
        refine RL.ev (.field0 fo34_3 rfl) rfl rfl ?_
        refine RL.ev (.load1 sh2 rfl (hb_3.cell rfl)) rfl rfl ?_
        refine RL.ev (.buildS ze45 pl45 rfl rfl) rfl rfl ?_
        refine RL.call rfl ok56 (c_with l ⟨o.a, o.b⟩ a c _ rfl hc w_4 (hl.sub S) (by omega)) rfl rfl ?_
        rintro _ w6 ⟨s7, a7, c7, rfl, hc7, o7⟩
        have lt4 := hb_4.lt
        have szS := S.size
        have S := S.trans s7
        have hb_3 := hb_3.sub s7
        have hb_4 := hb_4.sub s7
        have d7 : ∀ k, ob (.slice a7 (l.length + 1) c7) = some k → k ≠ b_4 := (fun k hk e => by have := (o7.ge k hk).1; omega)
        have d73 : ∀ k, ob (.slice a7 (l.length + 1) c7) = some k → k ≠ b_3 := (fun k hk e => by have := (o7.ge k hk).1; omega)
        refine RL.ev (.as (v' := .agg #[.slice a7 (l.length + 1) c7, .int .i64 0, .int .i64 0, .int .i64 0]) (.buildS ze65 pl65 rfl rfl) (by kernel_rfl)) rfl rfl ?_
        refine RL.store sh65 rfl rfl rfl hb_4 (by exact Nat.le_of_ble_eq_true rfl) (by rfl) rfl (fun w8 z8 hb_4 a8 => ?_)
        have S := S.upd a8 ge_4
        have hb_3 := hb_3.upd a8 n_3__4
        have o7 := o7.updD a8 d7
        have hb_4 : Has w8 b_4 ([.slice a7 (l.length + 1) c7, .int .i64 0, .int .i64 0, .int .i64 0]) _ := hb_4.now (by kernel_rfl)
        refine RL.nil (RC.back ?_)
        refine RC.done (rs := [.cell 4 65]) (vs := [_]) rfl rfl ⟨⟨_, rfl, .inr ⟨[.slice a7 (l.length + 1) c7, .int .i64 0, .int .i64 0, .int .i64 0], sh65, hb_4.row, rfl⟩⟩, trivial⟩ ?_
        -- end 3
        have he : heapM l o = (l.take (whN l ⟨o.a, o.b⟩) ++ ⟨o.a, o.b⟩ :: l.drop (whN l ⟨o.a, o.b⟩), ⟨0, 0, 0⟩) := (by rw [heapM, if_neg n10, if_pos k22, if_neg n18])
        have hln : (l.take (whN l ⟨o.a, o.b⟩) ++ (⟨o.a, o.b⟩ : It) :: l.drop (whN l ⟨o.a, o.b⟩)).length = l.length + 1 := (by have := o7.sl.2; rw [List.length_map] at this; exact this.symm)
        rw [he]
        exact ⟨S, _, _, _, by rw [hln]; rfl, by rw [hln]; exact hc7, o7.ft.imp (fun u h => h.sl.1), fun k hk => .inr (Nat.le_trans szS (o7.ge k hk).1)⟩
    ·
      have n22 := h3
      refine RC.skip (RC.back ?_)
      refine RC.seq ?_
      refine RC.seq ?_
      refine RC.region rfl ?_
      refine RL.ev (.move rfl) rfl rfl ?_
      refine RL.ev (.len sl22 rfl) rfl rfl ?_
      refine RL.ev (.bin rfl rfl rfl) rfl rfl ?_
      refine RL.nil (RC.back ?_)
      refine RC.cond_dec rfl (fun h9 => ?_) (fun h9 => ?_)
      ·
        have k51 : l.length = 0 := (by omega)
        refine RC.seq ?_
        refine RC.region rfl ?_
        refine RL.ev (.move rfl) rfl rfl ?_
        refine RL.ev (.as (v' := .agg #[.int .i64 3, .int .i64 0, .int .i64 0]) (.buildS ze39 pl39 rfl rfl) (by kernel_rfl)) rfl rfl ?_
        refine RL.ev (.as (v' := .agg #[.slice a l.length c, .int .i64 3, .int .i64 0, .int .i64 0]) (.buildS ze65 pl65 rfl rfl) (by kernel_rfl)) rfl rfl ?_
        refine RL.store sh65 rfl rfl rfl hb_4 (by exact Nat.le_of_ble_eq_true rfl) (by rfl) rfl (fun w10 z10 hb_4 a10 => ?_)
        have S := S.upd a10 ge_4
        have hb_3 := hb_3.upd a10 n_3__4
        have hb_4 : Has w10 b_4 ([.slice a l.length c, .int .i64 3, .int .i64 0, .int .i64 0]) _ := hb_4.now (by kernel_rfl)
        refine RL.nil (RC.back ?_)
        refine RC.done (rs := [.cell 4 65]) (vs := [_]) rfl rfl ⟨⟨_, rfl, .inr ⟨[.slice a l.length c, .int .i64 3, .int .i64 0, .int .i64 0], sh65, hb_4.row, rfl⟩⟩, trivial⟩ ?_
        -- end 4
        have he : heapM l o = (l, ⟨3, 0, 0⟩) := (by rw [heapM, if_neg n10, if_neg n22, if_pos k51])
        rw [he]
        exact ⟨S, _, _, M, rfl, hc, hF.sub S, Up.refl _ _⟩
      ·
        have n51 : 0 < l.length := (by omega)
        obtain ⟨y, hy⟩ := getSome (l := l) (i := 0) n51
        have hva := valAt_get hy
        refine RC.skip (RC.back ?_)
        refine RC.seq ?_
        refine RC.drawD (fun k => False) [10] w_4.heap.size 11 rfl rfl mxo (fun w11 s12 => ?_)
        have hNN : ∀ k, ((False) ∨ w_4.heap.size ≤ k) → w.heap.size ≤ k := fun k e => e.elim (fun e => e.elim) (fun e => Nat.le_trans S.size e)
        have ent_S := S.size
        have hN0 : ∀ k, w_4.heap.size ≤ k → w.heap.size ≤ k := fun k e => Nat.le_trans S.size e
        have ltD_b_3 := hb_3.lt
        have ltD_b_4 := hb_4.lt
        have szD := Nat.le_refl w_4.heap.size
        have S := S.trans s12
        have hb_3 := hb_3.sub s12
        have hb_4 := hb_4.sub s12
        have szD := Nat.le_trans szD s12.size
        refine RD.take 0 rfl (by kernel_rfl) (by kernel_rfl) (by kernel_rfl) (fun w' s' => .move rfl) rfl rfl ?_
        refine RD.take 1 rfl (by kernel_rfl) (by kernel_rfl) (by kernel_rfl) (fun w' s' => .indexS sl22 rfl rfl (by omega) (hl.is (i := 0) (by simp only [List.length_map, List.length_cons, List.length_nil]; omega))) rfl rfl ?_
        refine RD.take 2 rfl (by kernel_rfl) (by kernel_rfl) (by kernel_rfl) (fun w' s' => .fieldA fo45_0 rfl) rfl rfl ?_
        refine RD.take 3 rfl (by kernel_rfl) (by kernel_rfl) (by kernel_rfl) (fun w' s' => .load1 sh2 rfl ((hl.sub (S.agrN s' hNN)).cell (enc := It.cells) (i := 0) (j := 0) hy rfl)) rfl rfl ?_
        refine RD.take 4 rfl (by kernel_rfl) (by kernel_rfl) (by kernel_rfl) (fun w' s' => .move rfl) rfl rfl ?_
        refine RD.take 5 rfl (by kernel_rfl) (by kernel_rfl) (by kernel_rfl) (fun w' s' => .indexS sl22 rfl rfl (by omega) (hl.is (i := 0) (by simp only [List.length_map, List.length_cons, List.length_nil]; omega))) rfl rfl ?_
        refine RD.take 6 rfl (by kernel_rfl) (by kernel_rfl) (by kernel_rfl) (fun w' s' => .fieldA fo45_1 rfl) rfl rfl ?_
        refine RD.take 7 rfl (by kernel_rfl) (by kernel_rfl) (by kernel_rfl) (fun w' s' => .load1 sh2 rfl ((hl.sub (S.agrN s' hNN)).cell (enc := It.cells) (i := 0) (j := 1) hy rfl)) rfl rfl ?_
        refine RD.take 8 rfl (by kernel_rfl) (by kernel_rfl) (by kernel_rfl) (fun w' s' => .as (v' := .agg #[.int .i64 0, .int .i64 y.k, .int .i64 y.v]) (.buildS ze39 pl39 rfl rfl) (by kernel_rfl)) rfl rfl ?_
        refine RD.all [9] (by kernel_rfl) rfl (RDs.cons rfl ?_ (RDs.nil))
        refine RL.alloc ze39 rfl rfl (fun b_5 w_5 e_5 z_5 hb_5 s_5 => ?_)
        have fr_b_5 : w_4.heap.size ≤ b_5 := by rw [e_5]; exact szD
        have ge_5 := S.le e_5
        have n_3__5 := hb_3.ne e_5
        have n_4__5 := hb_4.ne e_5
        have S := S.trans s_5
        have hb_3 := hb_3.sub s_5
        have hb_4 := hb_4.sub s_5
        have szD := Nat.le_trans szD s_5.size
        refine RD.back s_5.agr ?_
        refine RD.all [10] (by kernel_rfl) rfl (RDs.cons rfl ?_ (RDs.nil))
        refine RL.store sh39 rfl rfl rfl hb_5 (by exact Nat.le_of_ble_eq_true rfl) (by rfl) rfl (fun w13 z13 hb_5 a13 => ?_)
        have S := S.upd a13 ge_5
        have hb_3 := hb_3.upd a13 n_3__5
        have hb_4 := hb_4.upd a13 n_4__5
        have szD := Nat.le_trans szD a13.size
        have hb_5 : Has w13 b_5 ([.int .i64 0, .int .i64 y.k, .int .i64 y.v]) _ := hb_5.now (by kernel_rfl)
        refine RD.backW rfl (a13.mono fun k _ e => e ▸ (.inr fr_b_5)) ?_
        refine RD.done (by kernel_rfl) (RC.back ?_)
        refine RC.seq ?_
        refine RC.seq ?_
        refine RC.region rfl ?_
        refine RL.ev (.field0 fo34_1 rfl) rfl rfl ?_
        refine RL.ev (.load1 sh3 rfl (hb_3.cell rfl)) rfl rfl ?_
        refine RL.ev (.bin rfl rfl rfl) rfl rfl ?_
        refine RL.nil (RC.back ?_)
        refine RC.cond_dec rfl (fun h14 => ?_) (fun h14 => ?_)
        ·
          have k68 := h14
          refine RC.seq ?_
          refine RC.drawD (fun k => k = b_4) [4] w13.heap.size 5 rfl rfl mxo (fun w15 s16 => ?_)
          have hNN : ∀ k, ((k = b_4) ∨ w13.heap.size ≤ k) → w.heap.size ≤ k := fun k e => e.elim (fun e => e ▸ ge_4) (fun e => Nat.le_trans S.size e)
          have ent_S := S.size
          have hN0 : ∀ k, w13.heap.size ≤ k → w.heap.size ≤ k := fun k e => Nat.le_trans S.size e
          have ltD_b_3 := hb_3.lt
          have ltD_b_4 := hb_4.lt
          have ltD_b_5 := hb_5.lt
          have szD := Nat.le_refl w13.heap.size
          have S := S.trans s16
          have hb_3 := hb_3.sub s16
          have hb_4 := hb_4.sub s16
          have hb_5 := hb_5.sub s16
          have szD := Nat.le_trans szD s16.size
          refine RD.take 0 rfl (by kernel_rfl) (by kernel_rfl) (by kernel_rfl) (fun w' s' => .move rfl) rfl rfl ?_
          refine RD.take 1 rfl (by kernel_rfl) (by kernel_rfl) (by kernel_rfl) (fun w' s' => .as (v' := .slice (if c = 1 then a else a.map (·.add (1 * 2))) (l.drop 1).length (c - 1)) (.sliceLo sl22 rfl rfl (by omega)) (by rw [List.length_drop]; rfl)) rfl rfl ?_
          refine RD.take 2 rfl (by kernel_rfl) (by kernel_rfl) (by kernel_rfl) (fun w' s' => .loadR ([.int .i64 0, .int .i64 y.k, .int .i64 y.v]) sh39 rfl (hb_5.step s' (fun e => e.elim (fun e => n_4__5.symm e) (fun e => Nat.not_le.2 ltD_b_5 e))).row rfl) rfl rfl ?_
          refine RD.take 3 rfl (by kernel_rfl) (by kernel_rfl) (by kernel_rfl) (fun w' s' => .as (v' := .agg #[.slice (if c = 1 then a else a.map (·.add (1 * 2))) (l.drop 1).length (c - 1), .int .i64 0, .int .i64 y.k, .int .i64 y.v]) (.buildS ze65 pl65 rfl rfl) (by kernel_rfl)) rfl rfl ?_
          refine RD.all [4] (by kernel_rfl) rfl (RDs.cons rfl ?_ (RDs.nil))
          refine RL.store sh65 rfl rfl rfl hb_4 (by exact Nat.le_of_ble_eq_true rfl) (by rfl) rfl (fun w17 z17 hb_4 a17 => ?_)
          have S := S.upd a17 ge_4
          have hb_3 := hb_3.upd a17 n_3__4
          have hb_5 := hb_5.upd a17 n_4__5.symm
          have szD := Nat.le_trans szD a17.size
          have hb_4 : Has w17 b_4 ([.slice (if c = 1 then a else a.map (·.add (1 * 2))) (l.drop 1).length (c - 1), .int .i64 0, .int .i64 y.k, .int .i64 y.v]) _ := hb_4.now (by kernel_rfl)
          refine RD.backW rfl (a17.mono fun k _ e => e ▸ (.inl (rfl))) ?_
          refine RD.done (by kernel_rfl) (RC.back ?_)
          refine RC.done (rs := [.cell 4 65]) (vs := [_]) rfl rfl ⟨⟨_, rfl, .inr ⟨[.slice (if c = 1 then a else a.map (·.add (1 * 2))) (l.drop 1).length (c - 1), .int .i64 0, .int .i64 y.k, .int .i64 y.v], sh65, hb_4.row, rfl⟩⟩, trivial⟩ ?_
          -- end 5
          have he : heapM l o = (l.drop 1, ⟨0, y.k, y.v⟩) := (by rw [heapM, if_neg n10, if_neg n22, if_neg (by omega), if_pos k68, hva])
          rw [he]
          exact ⟨S, _, _, M, rfl, by rw [List.length_drop]; show _ ≤ c - 1; omega, (hF.sub S).imp (fun u h => slDropM h 1 hc), Up.refl _ _⟩
        ·
          have n68 := h14
          refine RC.skip (RC.back ?_)
          refine RC.seq ?_
          refine RC.region rfl ?_
          refine RL.ev (.move rfl) rfl rfl ?_
          refine RL.ev (.loadR ([.int .i64 0, .int .i64 y.k, .int .i64 y.v]) sh39 rfl hb_5.row rfl) rfl rfl ?_
          refine RL.ev (.as (v' := .agg #[.slice a l.length c, .int .i64 0, .int .i64 y.k, .int .i64 y.v]) (.buildS ze65 pl65 rfl rfl) (by kernel_rfl)) rfl rfl ?_
          refine RL.store sh65 rfl rfl rfl hb_4 (by exact Nat.le_of_ble_eq_true rfl) (by rfl) rfl (fun w18 z18 hb_4 a18 => ?_)
          have S := S.upd a18 ge_4
          have hb_3 := hb_3.upd a18 n_3__4
          have hb_5 := hb_5.upd a18 n_4__5.symm
          have hb_4 : Has w18 b_4 ([.slice a l.length c, .int .i64 0, .int .i64 y.k, .int .i64 y.v]) _ := hb_4.now (by kernel_rfl)
          refine RL.nil (RC.back ?_)
          refine RC.done (rs := [.cell 4 65]) (vs := [_]) rfl rfl ⟨⟨_, rfl, .inr ⟨[.slice a l.length c, .int .i64 0, .int .i64 y.k, .int .i64 y.v], sh65, hb_4.row, rfl⟩⟩, trivial⟩ ?_
          -- end 6
          have he : heapM l o = (l, ⟨0, y.k, y.v⟩) := (by rw [heapM, if_neg n10, if_neg n22, if_neg (by omega), if_neg n68, hva])
          rw [he]
          exact ⟨S, _, _, M, rfl, hc, hF.sub S, Up.refl _ _⟩
end Go.Proofs.Ytjafbffehmombaa
