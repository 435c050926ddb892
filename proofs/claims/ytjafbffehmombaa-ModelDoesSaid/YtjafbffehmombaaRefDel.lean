/-
  The reference's Del: a row without a key.
-/
import Derived.Test.YtjafbffehmombaaForestP
import Derived.Test.YtjafbffehmombaaTreapRows
set_option linter.unusedVariables false
set_option linter.unusedSimpArgs false
namespace Go.Proofs.Ytjafbffehmombaa
open Go Go.XL

theorem c_refDel (l : List It) (a : Option Addr) (c m : Nat) (hm : m = l.length) (key : Int) (w : World) (hl : Sl w a 2 (l.map It.cells)) (hb : l.length ≤ 1000000) :
    FC Try.prog 55 [.slice a m c, .int .i64 key] w (fun u w' => ∃ a' c', u = .slice a' ((delL l key).map It.cells).length c' ∧ Ows w.heap.size w' 45 2 (.slice a' ((delL l key).map It.cells).length c') ((delL l key).map It.cells) ∧ Sub w w') := by
  subst hm
  refine FC.intro Try.func55 rfl Try.ntmps55 rfl ?_
  have S := Sub.refl w
  refine RC.seq ?_
  refine RC.region rfl ?_
  refine RL.ev (.assign rfl) rfl rfl ?_
  refine RL.nil (RC.back ?_)
  refine RC.seq ?_
  refine RC.region rfl ?_
  refine RL.buildSlice0 sl22 rfl rfl (fun b_8 w_8 e_8 z_8 hb_8 s_8 => ?_)
  have ge_8 := S.le e_8
  have S := S.trans s_8
  refine RL.ev (.assign rfl) rfl rfl ?_
  refine RL.nil (RC.back ?_)
  refine RC.seq ?_
  refine RC.seq ?_
  refine RC.region rfl ?_
  refine RL.ev (.move rfl) rfl rfl ?_
  refine RL.ev (.len sl22 rfl) rfl rfl ?_
  refine RL.ev (.move rfl) rfl rfl ?_
  refine RL.nil (RC.back ?_)
  refine RC.block ?_
  refine RC.loop (α := Nat × Option Addr × Nat × Nat) (fun x => [(1, .int .i64 key), (5, .slice x.2.1 x.2.2.1 x.2.2.2), (9, .slice a l.length c), (10, .int .i64 (l.length : Int)), (11, .int .i64 (x.1 : Int))]) (fun x w1 => x.1 ≤ l.length ∧ Ows w.heap.size w1 45 2 (.slice x.2.1 x.2.2.1 x.2.2.2) ((delL (l.take x.1) key).map It.cells) ∧ Sub w w1) (fun x => l.length - x.1) (0, some ⟨b_8, 0, none⟩, 0, 0) (keep_of (by repeat (first | exact trivial | refine And.intro rfl ?_))) (⟨Nat.zero_le _, Ows.lit0 hb_8 (by omega), S⟩) (fun x w1 hJ => ?_)
  obtain ⟨i, ao, mo, co⟩ := x; obtain ⟨hi, o, S⟩ := hJ; simp only [] at hi o; obtain rfl := o.sl.2; have szB := S.size; have hdl : (delL (l.take i) key).length ≤ i := Nat.le_trans (List.length_filter_le _ _) (by rw [List.length_take]; omega)
  refine RC.seq ?_
  refine RC.region rfl ?_
  refine RL.ev (.bin rfl rfl rfl) rfl rfl ?_
  refine RL.nil (RC.back ?_)
  refine RC.seq ?_
  refine RC.cond_dec rfl (fun h2 => ?_) (fun h2 => ?_)
  ·
    obtain ⟨x, hx⟩ := getSome (l := l) (i := i) (by omega)
    refine RC.skip (RC.back ?_)
    refine RC.seq ?_
    refine RC.block ?_
    refine RC.seq ?_
    refine RC.region rfl ?_
    refine RL.ev (.indexS sl22 rfl rfl (by omega) (hl.is (i := 0) (by simp only [List.length_map, List.length_cons, List.length_nil]; omega))) rfl rfl ?_
    refine RL.ev (.loadR (x.cells) sh45 rfl ((hl.sub S).rowAt (enc := It.cells) (i := i) hx) rfl) rfl rfl ?_
    refine RL.alloc ze45 rfl rfl (fun b_7 w_7 e_7 z_7 hb_7 s_7 => ?_)
    have ge_7 := S.le e_7
    have d_o_b_7 := o.neNew e_7
    have S := S.trans s_7
    have o := o.sub s_7
    have szB := Nat.le_trans szB s_7.size
    refine RL.store sh45 rfl rfl rfl hb_7 (by exact Nat.le_of_ble_eq_true rfl) (by rfl) rfl (fun w3 z3 hb_7 a3 => ?_)
    have S := S.upd a3 ge_7
    have o := o.updD a3 d_o_b_7
    have szB := Nat.le_trans szB a3.size
    have hb_7 : Has w3 b_7 (x.cells) _ := hb_7.now (by kernel_rfl)
    refine RL.nil (RC.back ?_)
    refine RC.seq ?_
    refine RC.region rfl ?_
    refine RL.ev (.field0 fo45_0 rfl) rfl rfl ?_
    refine RL.ev (.load1 sh2 rfl (hb_7.cell rfl)) rfl rfl ?_
    refine RL.ev (.move rfl) rfl rfl ?_
    refine RL.ev (.bin rfl rfl rfl) rfl rfl ?_
    refine RL.nil (RC.back ?_)
    refine RC.cond_dec rfl (fun h4 => ?_) (fun h4 => ?_)
    ·
      have hk : ¬ x.k = key := h4
      have hnext : delL (l.take (i + 1)) key = delL (l.take i) key ++ [x] := (by unfold delL; rw [filter_take hx, if_pos (decide_eq_true hk)])
      refine RC.region rfl ?_
      refine RL.ev (.move rfl) rfl rfl ?_
      refine RL.ev (.loadR (x.cells) sh45 rfl hb_7.row rfl) rfl rfl ?_
      refine RL.buildSlice1 sl22 _ ze45 rfl rfl rfl rfl rfl rfl rfl (fun b_21 w_21 e_21 z_21 hb_21 s_21 => ?_)
      have ge_21 := S.le e_21
      have n_7__21 := hb_7.ne e_21
      have d_o_b_21 := o.neNew e_21
      have S := S.trans s_21
      have o := o.sub s_21
      have szB := Nat.le_trans szB s_21.size
      have hb_7 := hb_7.sub s_21
      have sz_22 := S.size
      have ltb_7_22 := hb_7.lt
      have ltb_21_22 := hb_21.lt
      refine RL.append2 (base := w.heap.size) (rows := (delL (l.take i) key).map It.cells) (news := [_]) sl22 ze45 rfl rfl rfl rfl (.inl o) (Has.slOne hb_21) rfl (by intro r hr; rw [List.mem_singleton] at hr; subst hr; rfl) rfl (by (try simp only [List.length_map, List.length_nil, List.length_append, List.length_cons]); omega) (by (try simp only [List.length_map, List.length_nil, List.length_append, List.length_cons]); omega) (by omega) rfl rfl (fun v_22 w_22 hc_22 ho_22 ag_22 ob_22 => ?_)
      have o22 := ho_22 (.inl (by simp))
      rw [show _ ++ [_] = ((delL (l.take i) key ++ [x]).map It.cells) from by rw [List.map_append]; rfl] at o22
      have d_o22_b_7 := obNe ob_22 d_o_b_7 hb_7.lt
      have S := S.agrN ag_22 (fun k e => Nat.le_trans (by omega) e.2)
      have szB := Nat.le_trans szB ag_22.size
      have hb_7 := hb_7.step ag_22 (fun e => d_o_b_7 _ e.1 rfl)
      obtain ⟨a_22, c_22, rfl, k_22⟩ := o22.form
      refine RL.ev (.assign rfl) rfl rfl ?_
      refine RL.nil (RC.back ?_)
      refine RC.region rfl ?_
      refine RL.ev (.as (.bin rfl rfl rfl) (wi64 (y := ((i + 1 : Nat) : Int)) (by omega) (by omega))) rfl rfl ?_
      refine RL.ev (.move rfl) rfl rfl ?_
      exact RL.nil (fun a ka => ⟨(i + 1, a_22, _, c_22), ⟨by omega, by show Ows _ _ _ _ _ ((delL (l.take (i + 1)) key).map It.cells); rw [hnext]; exact o22, S⟩, by omega, ka.keep (keep_of (by repeat (first | exact trivial | refine And.intro rfl ?_)))⟩)
    ·
      have hk : x.k = key := Decidable.not_not.1 h4
      have hnext : delL (l.take (i + 1)) key = delL (l.take i) key := (by unfold delL; rw [filter_take hx, if_neg (by simp [hk]), List.append_nil])
      refine RC.skip (RC.back ?_)
      refine RC.region rfl ?_
      refine RL.ev (.as (.bin rfl rfl rfl) (wi64 (y := ((i + 1 : Nat) : Int)) (by omega) (by omega))) rfl rfl ?_
      refine RL.ev (.move rfl) rfl rfl ?_
      exact RL.nil (fun a ka => ⟨(i + 1, ao, _, co), ⟨by omega, by show Ows _ _ _ _ _ ((delL (l.take (i + 1)) key).map It.cells); rw [hnext]; exact o, S⟩, by omega, ka.keep (keep_of (by repeat (first | exact trivial | refine And.intro rfl ?_)))⟩)
  ·
    obtain rfl : i = l.length := (by omega)
    rw [List.take_length] at o
    refine RC.exit rfl (RC.back ?_)
    refine RC.seq ?_
    refine RC.region rfl ?_
    refine RL.ev (.move rfl) rfl rfl ?_
    refine RL.ev (.assign rfl) rfl rfl ?_
    refine RL.nil (RC.back ?_)
    refine RC.done (rs := [.tmp 4]) (vs := [_]) rfl rfl ⟨rfl, trivial⟩ ?_
    -- end 1
    exact ⟨ao, co, by rw [List.take_length]; rfl, o, S⟩
end Go.Proofs.Ytjafbffehmombaa
