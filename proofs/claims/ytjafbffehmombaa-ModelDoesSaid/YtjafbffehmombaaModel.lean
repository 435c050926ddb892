/-
  The package model and its reference: which contents may be.
-/
import Derived.Test.YtjafbffehmombaaOps
import Derived.Test.YtjafbffehmombaaMixRef
set_option linter.unusedVariables false
set_option linter.unusedSimpArgs false
namespace Go.Proofs.Ytjafbffehmombaa
open Go Go.XL

noncomputable def pB (p : Prop) : Bool := @decide p (Classical.propDecidable p)
theorem pB_iff {p : Prop} : pB p = true ↔ p := @decide_eq_true_iff p (Classical.propDecidable p)
theorem pB_yes {p : Prop} (h : p) : pB p = true := pB_iff.2 h
theorem pB_no {p : Prop} (h : ¬ p) : pB p = false := by rw [Bool.eq_false_iff]; exact fun e => h (pB_iff.1 e)
theorem pB_congr {p q : Prop} (h : p ↔ q) : pB p = pB q := by rw [Bool.eq_iff_iff, pB_iff, pB_iff]; exact h
def cmpI (a b : Int) : Int := if a < b then -1 else if b < a then 1 else 0
def cmpIt (x y : It) : Int := if cmpI x.k y.k = 0 then cmpI x.v y.v else cmpI x.k y.k
def lessP (x y : It) : Prop := x.k < y.k ∨ x.k = y.k ∧ x.v < y.v
instance (x y : It) : Decidable (lessP x y) := by unfold lessP; infer_instance
theorem cmpI_lt {a b : Int} (h : a < b) : cmpI a b = -1 := if_pos h
theorem cmpI_gt {a b : Int} (h : b < a) : cmpI a b = 1 := by rw [cmpI, if_neg (by omega), if_pos h]
theorem cmpI_eq {a b : Int} (h : a = b) : cmpI a b = 0 := by rw [cmpI, if_neg (by omega), if_neg (by omega)]
theorem cmpI_cases (a b : Int) : (a < b ∧ cmpI a b = -1) ∨ (b < a ∧ cmpI a b = 1) ∨ (a = b ∧ cmpI a b = 0) := by
  rcases Int.lt_trichotomy a b with h | h | h
  · exact .inl ⟨h, cmpI_lt h⟩
  · exact .inr (.inr ⟨h, cmpI_eq h⟩)
  · exact .inr (.inl ⟨h, cmpI_gt h⟩)
theorem cmpIt_cases (x y : It) : (lessP x y ∧ cmpIt x y = -1) ∨ (lessP y x ∧ cmpIt x y = 1) ∨ (x = y ∧ cmpIt x y = 0) := by
  unfold lessP cmpIt
  rcases cmpI_cases x.k y.k with ⟨h, e⟩ | ⟨h, e⟩ | ⟨h, e⟩ <;> rw [e]
  · exact .inl ⟨.inl h, rfl⟩
  · exact .inr (.inl ⟨.inl h, rfl⟩)
  · rw [if_pos rfl]
    rcases cmpI_cases x.v y.v with ⟨h2, e2⟩ | ⟨h2, e2⟩ | ⟨h2, e2⟩ <;> rw [e2]
    · exact .inl ⟨.inr ⟨h, h2⟩, rfl⟩
    · exact .inr (.inl ⟨.inr ⟨h.symm, h2⟩, rfl⟩)
    · refine .inr (.inr ⟨?_, rfl⟩); cases x; cases y; simp_all
theorem c_isNaN (a : Int) (w : World) : FC Try.prog 70 [.int .i64 a] w (Val (.bool false) w) := by
  refine FC.intro Try.func70 rfl Try.ntmps70 rfl ?_
  have S := Sub.refl w
  refine RC.seq ?_
  refine RC.region rfl ?_
  refine RL.ev (.assign rfl) rfl rfl ?_
  refine RL.nil (RC.back ?_)
  refine RC.seq ?_
  refine RC.region rfl ?_
  refine RL.ev (.move rfl) rfl rfl ?_
  refine RL.ev (.move rfl) rfl rfl ?_
  refine RL.ev (.as (v' := .bool false) (.bin rfl rfl rfl) (congrArg Value.bool (decide_eq_false (fun h => h rfl)))) rfl rfl ?_
  refine RL.ev (.assign rfl) rfl rfl ?_
  refine RL.nil (RC.back ?_)
  refine RC.done (rs := [.tmp 2]) (vs := [_]) rfl rfl ⟨rfl, trivial⟩ ?_
  -- end 1
  exact ⟨rfl, S⟩
theorem c_compare (a b : Int) (w : World) : FC Try.prog 60 [.int .i64 a, .int .i64 b] w (Val (.int .i64 (cmpI a b)) w) := by
  refine FC.intro Try.func60 rfl Try.ntmps60 rfl ?_
  have S := Sub.refl w
  refine RC.seq ?_
  refine RC.region rfl ?_
  refine RL.ev (.assign rfl) rfl rfl ?_
  refine RL.nil (RC.back ?_)
  refine RC.seq ?_
  refine RC.region rfl ?_
  refine RL.ev (.move rfl) rfl rfl ?_
  refine RL.call rfl ok70 (c_isNaN a w) rfl rfl ?_
  rintro _ w1 ⟨rfl, s2⟩
  have S := S.trans s2
  refine RL.ev (.assign rfl) rfl rfl ?_
  refine RL.nil (RC.back ?_)
  refine RC.seq ?_
  refine RC.region rfl ?_
  refine RL.ev (.move rfl) rfl rfl ?_
  refine RL.call rfl ok70 (c_isNaN b w1) rfl rfl ?_
  rintro _ w3 ⟨rfl, s4⟩
  have S := S.trans s4
  refine RL.ev (.assign rfl) rfl rfl ?_
  refine RL.nil (RC.back ?_)
  refine RC.seq ?_
  refine RC.seq ?_
  refine RC.region rfl ?_
  refine RL.ev (.move rfl) rfl rfl ?_
  refine RL.nil (RC.back ?_)
  refine RC.cond_f rfl ?_
  refine RC.skip (RC.back ?_)
  refine RC.seq ?_
  refine RC.seq ?_
  refine RC.region rfl ?_
  refine RL.ev (.move rfl) rfl rfl ?_
  refine RL.nil (RC.back ?_)
  refine RC.cond_f rfl ?_
  refine RC.skip (RC.back ?_)
  refine RC.seq ?_
  refine RC.seq ?_
  refine RC.region rfl ?_
  refine RL.ev (.move rfl) rfl rfl ?_
  refine RL.ev (.move rfl) rfl rfl ?_
  refine RL.ev (.bin rfl rfl rfl) rfl rfl ?_
  refine RL.nil (RC.back ?_)
  refine RC.cond_dec rfl (fun h5 => ?_) (fun h5 => ?_)
  ·
    have h16 : a < b := h5
    refine RC.seq ?_
    refine RC.region rfl ?_
    refine RL.ev (.assign rfl) rfl rfl ?_
    refine RL.nil (RC.back ?_)
    refine RC.done (rs := [.tmp 4]) (vs := [_]) rfl rfl ⟨rfl, trivial⟩ ?_
    -- end 1
    rw [cmpI_lt h16]
    exact ⟨rfl, S⟩
  ·
    have h16 : ¬ a < b := h5
    refine RC.skip (RC.back ?_)
    refine RC.seq ?_
    refine RC.seq ?_
    refine RC.region rfl ?_
    refine RL.ev (.move rfl) rfl rfl ?_
    refine RL.ev (.move rfl) rfl rfl ?_
    refine RL.ev (.bin rfl rfl rfl) rfl rfl ?_
    refine RL.nil (RC.back ?_)
    refine RC.cond_dec rfl (fun h6 => ?_) (fun h6 => ?_)
    ·
      have h19 : b < a := h6
      refine RC.seq ?_
      refine RC.region rfl ?_
      refine RL.ev (.assign rfl) rfl rfl ?_
      refine RL.nil (RC.back ?_)
      refine RC.done (rs := [.tmp 4]) (vs := [_]) rfl rfl ⟨rfl, trivial⟩ ?_
      -- end 2
      rw [cmpI_gt h19]
      exact ⟨rfl, S⟩
    ·
      have h19 : ¬ b < a := h6
      refine RC.skip (RC.back ?_)
      refine RC.seq ?_
      refine RC.region rfl ?_
      refine RL.ev (.assign rfl) rfl rfl ?_
      refine RL.nil (RC.back ?_)
      refine RC.done (rs := [.tmp 4]) (vs := [_]) rfl rfl ⟨rfl, trivial⟩ ?_
      -- end 3
      rw [cmpI_eq (by omega)]
      exact ⟨rfl, S⟩
theorem c_or (x y : Int) (a : Option Addr) (c m : Nat) (hm : m = 2) (w : World) (hl : Sl w a 1 ([x, y].map fun x => [i6 x])) : FC Try.prog 59 [.slice a m c] w (Val (.int .i64 (if x = 0 then y else x)) w) := by
  subst hm
  refine FC.intro Try.func59 rfl Try.ntmps59 rfl ?_
  have S := Sub.refl w
  refine RC.seq ?_
  refine RC.region rfl ?_
  refine RL.ev (.assign rfl) rfl rfl ?_
  refine RL.nil (RC.back ?_)
  refine RC.seq ?_
  refine RC.region rfl ?_
  refine RL.ev (.assign rfl) rfl rfl ?_
  refine RL.nil (RC.back ?_)
  refine RC.seq ?_
  refine RC.seq ?_
  refine RC.region rfl ?_
  refine RL.ev (.move rfl) rfl rfl ?_
  refine RL.ev (.len sl99 rfl) rfl rfl ?_
  refine RL.ev (.move rfl) rfl rfl ?_
  refine RL.nil (RC.back ?_)
  refine RC.block ?_
  refine RC.loop (α := Nat) (fun i => [(3, .int .i64 0), (6, .slice a 2 c), (7, .int .i64 2), (8, .int .i64 (i : Int))]) (fun i w1 => (i ≤ 2 ∧ (1 ≤ i → x = 0) ∧ (2 ≤ i → y = 0)) ∧ Sub w w1) (fun i => 2 - i) 0 (keep_of (by repeat (first | exact trivial | refine And.intro rfl ?_))) (⟨⟨by omega, fun (h : 1 ≤ 0) => absurd h (by decide), fun (h : 2 ≤ 0) => absurd h (by decide)⟩, S⟩) (fun i w1 hJ => ?_)
  obtain ⟨⟨hi, hp1, hp2⟩, S⟩ := hJ
  refine RC.seq ?_
  refine RC.region rfl ?_
  refine RL.ev (.bin rfl rfl rfl) rfl rfl ?_
  refine RL.nil (RC.back ?_)
  refine RC.seq ?_
  refine RC.cond_dec rfl (fun h2 => ?_) (fun h2 => ?_)
  ·
    obtain ⟨z, hz⟩ := getSome (l := [x, y]) (i := i) (by show i < 2; omega)
    have hzz : (i = 0 ∧ z = x) ∨ (i = 1 ∧ z = y) := (by have hi2 : i = 0 ∨ i = 1 := (by omega); rcases hi2 with rfl | rfl; exact .inl ⟨rfl, by simpa using hz.symm⟩; exact .inr ⟨rfl, by simpa using hz.symm⟩)
    refine RC.skip (RC.back ?_)
    refine RC.seq ?_
    refine RC.block ?_
    refine RC.seq ?_
    refine RC.region rfl ?_
    refine RL.ev (.indexS sl99 rfl rfl (by omega) (hl.is (i := 0) (by simp only [List.length_map, List.length_cons, List.length_nil]; omega))) rfl rfl ?_
    refine RL.ev (.load1 sh3 rfl ((hl.sub S).one (enc := i6) (i := i) hz)) rfl rfl ?_
    refine RL.ev (.assign rfl) rfl rfl ?_
    refine RL.nil (RC.back ?_)
    refine RC.seq ?_
    refine RC.region rfl ?_
    refine RL.ev (.move rfl) rfl rfl ?_
    refine RL.ev (.move rfl) rfl rfl ?_
    refine RL.ev (.bin rfl rfl rfl) rfl rfl ?_
    refine RL.nil (RC.back ?_)
    refine RC.cond_dec rfl (fun h3 => ?_) (fun h3 => ?_)
    ·
      have h14 : ¬ z = 0 := h3
      refine RC.seq ?_
      refine RC.region rfl ?_
      refine RL.ev (.move rfl) rfl rfl ?_
      refine RL.ev (.assign rfl) rfl rfl ?_
      refine RL.nil (RC.back ?_)
      refine RC.done (rs := [.tmp 2]) (vs := [_]) rfl rfl ⟨rfl, trivial⟩ ?_
      -- end 1
      rcases hzz with ⟨e, rfl⟩ | ⟨e, rfl⟩
      rw [if_neg h14]
      exact ⟨rfl, S⟩
      rw [if_pos (hp1 (by omega))]
      exact ⟨rfl, S⟩
    ·
      have h14 : z = 0 := Decidable.not_not.1 h3
      refine RC.skip (RC.back ?_)
      refine RC.region rfl ?_
      refine RL.ev (.as (.bin rfl rfl rfl) (wi64 (y := ((i + 1 : Nat) : Int)) (by omega) (by omega))) rfl rfl ?_
      refine RL.ev (.move rfl) rfl rfl ?_
      exact RL.nil (fun a ka => ⟨i + 1, ⟨⟨by omega, fun _ => by rcases hzz with ⟨e, e2⟩ | ⟨e, e2⟩; rw [← e2]; exact h14; exact hp1 (by omega), fun _ => by rcases hzz with ⟨e, e2⟩ | ⟨e, e2⟩; omega; rw [← e2]; exact h14⟩, S⟩, by omega, ka.keep (keep_of (by repeat (first | exact trivial | refine And.intro rfl ?_)))⟩)
  ·
    have hx0 := hp1 (by omega)
    have hy0 := hp2 (by omega)
    refine RC.exit rfl (RC.back ?_)
    refine RC.seq ?_
    refine RC.region rfl ?_
    refine RL.ev (.move rfl) rfl rfl ?_
    refine RL.ev (.assign rfl) rfl rfl ?_
    refine RL.nil (RC.back ?_)
    refine RC.done (rs := [.tmp 2]) (vs := [_]) rfl rfl ⟨rfl, trivial⟩ ?_
    -- end 2
    rw [if_pos hx0, hy0]
    exact ⟨rfl, S⟩
theorem c_less (x y : It) (w : World) : FC Try.prog 44 [x.val, y.val] w (Val (.int .i64 (cmpIt x y)) w) := by
  refine FC.intro Try.func44 rfl Try.ntmps44 rfl ?_
  have S := Sub.refl w
  refine RC.seq ?_
  refine RC.region rfl ?_
  refine RL.box rfl rfl rfl (fun b_2 w_2 e_2 z_2 hb_2 s_2 => ?_)
  have ge_2 := S.le e_2
  have S := S.trans s_2
  have hb_2 : Has w_2 b_2 ([.int .i64 x.k, .int .i64 x.v]) _ := hb_2
  refine RL.box rfl rfl rfl (fun b_3 w_3 e_3 z_3 hb_3 s_3 => ?_)
  have ge_3 := S.le e_3
  have n_2__3 := hb_2.ne e_3
  have S := S.trans s_3
  have hb_2 := hb_2.sub s_3
  have hb_3 : Has w_3 b_3 ([.int .i64 y.k, .int .i64 y.v]) _ := hb_3
  refine RL.ev (.assign rfl) rfl rfl ?_
  refine RL.nil (RC.back ?_)
  refine RC.seq ?_
  refine RC.drawD (fun k => False) [] w_3.heap.size 13 rfl rfl mxo (fun w1 s2 => ?_)
  have hNN : ∀ k, ((False) ∨ w_3.heap.size ≤ k) → w.heap.size ≤ k := fun k e => e.elim (fun e => e.elim) (fun e => Nat.le_trans S.size e)
  have ent_S := S.size
  have hN0 : ∀ k, w_3.heap.size ≤ k → w.heap.size ≤ k := fun k e => Nat.le_trans S.size e
  have ltD_b_2 := hb_2.lt
  have ltD_b_3 := hb_3.lt
  have szD := Nat.le_refl w_3.heap.size
  have S := S.trans s2
  have hb_2 := hb_2.sub s2
  have hb_3 := hb_3.sub s2
  have szD := Nat.le_trans szD s2.size
  refine RD.take 0 rfl (by kernel_rfl) (by kernel_rfl) (by kernel_rfl) (fun w' s' => .field0 fo45_0 rfl) rfl rfl ?_
  refine RD.take 1 rfl (by kernel_rfl) (by kernel_rfl) (by kernel_rfl) (fun w' s' => .load1 sh2 rfl ((hb_2.step s' (fun e => e.elim (fun e => e.elim) (fun e => Nat.not_le.2 ltD_b_2 e))).cell rfl)) rfl rfl ?_
  refine RD.take 2 rfl (by kernel_rfl) (by kernel_rfl) (by kernel_rfl) (fun w' s' => .field0 fo45_0 rfl) rfl rfl ?_
  refine RD.take 3 rfl (by kernel_rfl) (by kernel_rfl) (by kernel_rfl) (fun w' s' => .load1 sh2 rfl ((hb_3.step s' (fun e => e.elim (fun e => e.elim) (fun e => Nat.not_le.2 ltD_b_3 e))).cell rfl)) rfl rfl ?_
  refine RD.take 5 rfl (by kernel_rfl) (by kernel_rfl) (by kernel_rfl) (fun w' s' => .field0 fo45_1 rfl) rfl rfl ?_
  refine RD.take 6 rfl (by kernel_rfl) (by kernel_rfl) (by kernel_rfl) (fun w' s' => .load1 sh2 rfl ((hb_2.step s' (fun e => e.elim (fun e => e.elim) (fun e => Nat.not_le.2 ltD_b_2 e))).cell rfl)) rfl rfl ?_
  refine RD.take 7 rfl (by kernel_rfl) (by kernel_rfl) (by kernel_rfl) (fun w' s' => .field0 fo45_1 rfl) rfl rfl ?_
  refine RD.take 8 rfl (by kernel_rfl) (by kernel_rfl) (by kernel_rfl) (fun w' s' => .load1 sh2 rfl ((hb_3.step s' (fun e => e.elim (fun e => e.elim) (fun e => Nat.not_le.2 ltD_b_3 e))).cell rfl)) rfl rfl ?_
  refine RD.all [4] (by kernel_rfl) rfl (RDs.cons rfl ?_ (RDs.nil))
  refine RL.call rfl ok60 (c_compare x.k y.k w1) rfl rfl ?_
  rintro _ w3 ⟨rfl, s4⟩
  have S := S.trans s4
  have hb_2 := hb_2.sub s4
  have hb_3 := hb_3.sub s4
  have szD := Nat.le_trans szD s4.size
  refine RD.back s4.agr ?_
  refine RD.all [9] (by kernel_rfl) rfl (RDs.cons rfl ?_ (RDs.nil))
  refine RL.call rfl ok60 (c_compare x.v y.v w3) rfl rfl ?_
  rintro _ w5 ⟨rfl, s6⟩
  have S := S.trans s6
  have hb_2 := hb_2.sub s6
  have hb_3 := hb_3.sub s6
  have szD := Nat.le_trans szD s6.size
  refine RD.back s6.agr ?_
  refine RD.all [10] (by kernel_rfl) rfl (RDs.cons rfl ?_ (RDs.nil))
  refine RL.buildSliceN (vs := [_, _]) sl99 _ ze3 rfl ⟨rfl, rfl, trivial⟩ rfl rfl rfl rfl rfl rfl (fun b_15 w_15 e_15 z_15 hb_15 s_15 => ?_)
  have fr_b_15 : w_3.heap.size ≤ b_15 := by rw [e_15]; exact szD
  have ge_15 := S.le e_15
  have n_2__15 := hb_2.ne e_15
  have n_3__15 := hb_3.ne e_15
  have S := S.trans s_15
  have hb_2 := hb_2.sub s_15
  have hb_3 := hb_3.sub s_15
  have szD := Nat.le_trans szD s_15.size
  refine RD.back s_15.agr ?_
  refine RD.all [11] (by kernel_rfl) rfl (RDs.cons rfl ?_ (RDs.nil))
  refine RL.call rfl ok59 (c_or (cmpI x.k y.k) (cmpI x.v y.v) _ _ _ rfl w_15 (Has.sl1 (enc := i6) (l := [cmpI x.k y.k, cmpI x.v y.v]) hb_15)) rfl rfl ?_
  rintro _ w7 ⟨rfl, s8⟩
  have S := S.trans s8
  have hb_2 := hb_2.sub s8
  have hb_3 := hb_3.sub s8
  have szD := Nat.le_trans szD s8.size
  have hb_15 := hb_15.sub s8
  refine RD.back s8.agr ?_
  refine RD.take 12 rfl (by kernel_rfl) (by kernel_rfl) (by kernel_rfl) (fun w' s' => .assign rfl) rfl rfl ?_
  refine RD.done (by kernel_rfl) (RC.back ?_)
  refine RC.done (rs := [.tmp 4]) (vs := [_]) rfl rfl ⟨rfl, trivial⟩ ?_
  -- end 1
  exact ⟨rfl, S⟩
theorem c_up (x y : It) (w : World) : FC Try.prog 38 [x.val, y.val] w (Val (.bool (decide (x.k < y.k))) w) := by
  refine FC.intro Try.func38 rfl Try.ntmps38 rfl ?_
  have S := Sub.refl w
  refine RC.seq ?_
  refine RC.region rfl ?_
  refine RL.box rfl rfl rfl (fun b_2 w_2 e_2 z_2 hb_2 s_2 => ?_)
  have ge_2 := S.le e_2
  have S := S.trans s_2
  have hb_2 : Has w_2 b_2 ([.int .i64 x.k, .int .i64 x.v]) _ := hb_2
  refine RL.box rfl rfl rfl (fun b_3 w_3 e_3 z_3 hb_3 s_3 => ?_)
  have ge_3 := S.le e_3
  have n_2__3 := hb_2.ne e_3
  have S := S.trans s_3
  have hb_2 := hb_2.sub s_3
  have hb_3 : Has w_3 b_3 ([.int .i64 y.k, .int .i64 y.v]) _ := hb_3
  refine RL.ev (.assign rfl) rfl rfl ?_
  refine RL.nil (RC.back ?_)
  refine RC.seq ?_
  refine RC.region rfl ?_
  refine RL.ev (.field0 fo45_0 rfl) rfl rfl ?_
  refine RL.ev (.load1 sh2 rfl (hb_2.cell rfl)) rfl rfl ?_
  refine RL.ev (.field0 fo45_0 rfl) rfl rfl ?_
  refine RL.ev (.load1 sh2 rfl (hb_3.cell rfl)) rfl rfl ?_
  refine RL.ev (.bin rfl rfl rfl) rfl rfl ?_
  refine RL.ev (.assign rfl) rfl rfl ?_
  refine RL.nil (RC.back ?_)
  refine RC.done (rs := [.tmp 4]) (vs := [_]) rfl rfl ⟨rfl, trivial⟩ ?_
  -- end 1
  exact ⟨rfl, S⟩
theorem c_le3 (x y : It) (w : World) : FC Try.prog 43 [x.val, y.val] w (Val (.bool (decide (¬ lessP y x))) w) := by
  have hc := cmpIt_cases x y
  refine FC.intro Try.func43 rfl Try.ntmps43 rfl ?_
  have S := Sub.refl w
  refine RC.seq ?_
  refine RC.region rfl ?_
  refine RL.box rfl rfl rfl (fun b_2 w_2 e_2 z_2 hb_2 s_2 => ?_)
  have ge_2 := S.le e_2
  have S := S.trans s_2
  have hb_2 : Has w_2 b_2 ([.int .i64 x.k, .int .i64 x.v]) _ := hb_2
  refine RL.box rfl rfl rfl (fun b_3 w_3 e_3 z_3 hb_3 s_3 => ?_)
  have ge_3 := S.le e_3
  have n_2__3 := hb_2.ne e_3
  have S := S.trans s_3
  have hb_2 := hb_2.sub s_3
  have hb_3 : Has w_3 b_3 ([.int .i64 y.k, .int .i64 y.v]) _ := hb_3
  refine RL.ev (.assign rfl) rfl rfl ?_
  refine RL.nil (RC.back ?_)
  refine RC.seq ?_
  refine RC.region rfl ?_
  refine RL.ev (.loadR ([.int .i64 x.k, .int .i64 x.v]) sh45 rfl hb_2.row rfl) rfl rfl ?_
  refine RL.ev (.loadR ([.int .i64 y.k, .int .i64 y.v]) sh45 rfl hb_3.row rfl) rfl rfl ?_
  refine RL.call rfl ok44 (c_less x y w_3) rfl rfl ?_
  rintro _ w1 ⟨rfl, s2⟩
  have S := S.trans s2
  have hb_2 := hb_2.sub s2
  have hb_3 := hb_3.sub s2
  refine RL.ev (.bin rfl rfl rfl) rfl rfl ?_
  refine RL.ev (.assign rfl) rfl rfl ?_
  refine RL.nil (RC.back ?_)
  refine RC.done (rs := [.tmp 4]) (vs := [_]) rfl rfl ⟨rfl, trivial⟩ ?_
  -- end 1
  exact ⟨congrArg Value.bool (decide_eq_decide.2 (by unfold lessP at *; rcases hc with h | h | h <;> (try obtain ⟨rfl, h⟩ := h) <;> omega)), S⟩
theorem c_refLess (x y : It) (w : World) : FC Try.prog 27 [x.val, y.val] w (Val (.bool (decide (lessP x y))) w) := by
  refine FC.intro Try.func27 rfl Try.ntmps27 rfl ?_
  have S := Sub.refl w
  refine RC.seq ?_
  refine RC.region rfl ?_
  refine RL.box rfl rfl rfl (fun b_2 w_2 e_2 z_2 hb_2 s_2 => ?_)
  have ge_2 := S.le e_2
  have S := S.trans s_2
  have hb_2 : Has w_2 b_2 ([.int .i64 x.k, .int .i64 x.v]) _ := hb_2
  refine RL.box rfl rfl rfl (fun b_3 w_3 e_3 z_3 hb_3 s_3 => ?_)
  have ge_3 := S.le e_3
  have n_2__3 := hb_2.ne e_3
  have S := S.trans s_3
  have hb_2 := hb_2.sub s_3
  have hb_3 : Has w_3 b_3 ([.int .i64 y.k, .int .i64 y.v]) _ := hb_3
  refine RL.ev (.assign rfl) rfl rfl ?_
  refine RL.nil (RC.back ?_)
  refine RC.seq ?_
  refine RC.seq ?_
  refine RC.region rfl ?_
  refine RL.ev (.field0 fo45_0 rfl) rfl rfl ?_
  refine RL.ev (.load1 sh2 rfl (hb_2.cell rfl)) rfl rfl ?_
  refine RL.ev (.field0 fo45_0 rfl) rfl rfl ?_
  refine RL.ev (.load1 sh2 rfl (hb_3.cell rfl)) rfl rfl ?_
  refine RL.ev (.bin rfl rfl rfl) rfl rfl ?_
  refine RL.nil (RC.back ?_)
  refine RC.cond_dec rfl (fun h1 => ?_) (fun h1 => ?_)
  ·
    have h9 : ¬ x.k = y.k := h1
    refine RC.seq ?_
    refine RC.region rfl ?_
    refine RL.ev (.field0 fo45_0 rfl) rfl rfl ?_
    refine RL.ev (.load1 sh2 rfl (hb_2.cell rfl)) rfl rfl ?_
    refine RL.ev (.field0 fo45_0 rfl) rfl rfl ?_
    refine RL.ev (.load1 sh2 rfl (hb_3.cell rfl)) rfl rfl ?_
    refine RL.ev (.bin rfl rfl rfl) rfl rfl ?_
    refine RL.ev (.assign rfl) rfl rfl ?_
    refine RL.nil (RC.back ?_)
    refine RC.done (rs := [.tmp 4]) (vs := [_]) rfl rfl ⟨rfl, trivial⟩ ?_
    -- end 1
    exact ⟨congrArg Value.bool (decide_eq_decide.2 (by unfold lessP; omega)), S⟩
  ·
    have h9 : x.k = y.k := Decidable.not_not.1 h1
    refine RC.skip (RC.back ?_)
    refine RC.seq ?_
    refine RC.region rfl ?_
    refine RL.ev (.field0 fo45_1 rfl) rfl rfl ?_
    refine RL.ev (.load1 sh2 rfl (hb_2.cell rfl)) rfl rfl ?_
    refine RL.ev (.field0 fo45_1 rfl) rfl rfl ?_
    refine RL.ev (.load1 sh2 rfl (hb_3.cell rfl)) rfl rfl ?_
    refine RL.ev (.bin rfl rfl rfl) rfl rfl ?_
    refine RL.ev (.assign rfl) rfl rfl ?_
    refine RL.nil (RC.back ?_)
    refine RC.done (rs := [.tmp 4]) (vs := [_]) rfl rfl ⟨rfl, trivial⟩ ?_
    -- end 2
    exact ⟨congrArg Value.bool (decide_eq_decide.2 (by unfold lessP; omega)), S⟩
/-! ### rows of keys -/
def inK (x : It) : Prop := -1073741824 ≤ x.k ∧ x.k ≤ 1073741824
def keysP (nx : It → It → Bool) (l : List It) : Prop := (∀ x ∈ l, inK x) ∧ (∀ i x y, l[i]? = some x → l[i + 1]? = some y → nx x y = true) ∧ l.length ≤ 200
theorem c_keys (g : FuncId) (hg : calleeOK Try.prog g = true) (nx : It → It → Bool) (hn : ∀ x y w', FC Try.prog g [x.val, y.val] w' (Val (.bool (nx x y)) w')) (l : List It) (a : Option Addr) (c m : Nat) (hm : m = l.length) (w : World) (hl : Sl w a 2 (l.map It.cells)) (hb : l.length ≤ 1000000) :
    FC Try.prog 41 [.slice a m c, .func (.func g) #[] #[]] w (Val (.bool (pB (keysP nx l))) w) := by
  subst hm
  refine FC.intro Try.func41 rfl Try.ntmps41 rfl ?_
  have S := Sub.refl w
  refine RC.seq ?_
  refine RC.region rfl ?_
  refine RL.ev (.assign rfl) rfl rfl ?_
  refine RL.nil (RC.back ?_)
  refine RC.seq ?_
  refine RC.seq ?_
  refine RC.region rfl ?_
  refine RL.ev (.move rfl) rfl rfl ?_
  refine RL.ev (.len sl22 rfl) rfl rfl ?_
  refine RL.ev (.move rfl) rfl rfl ?_
  refine RL.nil (RC.back ?_)
  refine RC.block ?_
  refine RC.loop (α := Nat) (fun i => [(0, .slice a l.length c), (1, .func (.func g) #[] #[]), (7, .slice a l.length c), (8, .int .i64 (l.length : Int)), (9, .int .i64 (i : Int))]) (fun i w1 => (i ≤ l.length ∧ (∀ x ∈ l.take i, inK x) ∧ ∀ j x y, j + 1 < i → l[j]? = some x → l[j + 1]? = some y → nx x y = true) ∧ Sub w w1) (fun i => l.length - i) 0 (keep_of (by repeat (first | exact trivial | refine And.intro rfl ?_))) (⟨⟨Nat.zero_le _, by simp, fun j x y h => absurd h (by omega)⟩, S⟩) (fun i w1 hJ => ?_)
  obtain ⟨⟨hi, hp1, hp2⟩, S⟩ := hJ
  refine RC.seq ?_
  refine RC.region rfl ?_
  refine RL.ev (.bin rfl rfl rfl) rfl rfl ?_
  refine RL.nil (RC.back ?_)
  refine RC.seq ?_
  refine RC.cond_dec rfl (fun h2 => ?_) (fun h2 => ?_)
  ·
    obtain ⟨x, hx⟩ := getSome (l := l) (i := i) (by omega)
    have hxm := List.mem_of_getElem? hx
    refine RC.skip (RC.back ?_)
    refine RC.seq ?_
    refine RC.block ?_
    refine RC.seq ?_
    refine RC.region rfl ?_
    refine RL.ev (.move rfl) rfl rfl ?_
    refine RL.ev (.indexS sl22 rfl rfl (by omega) (hl.is (i := 0) (by simp only [List.length_map, List.length_cons, List.length_nil]; omega))) rfl rfl ?_
    refine RL.ev (.loadR ([.int .i64 x.k, .int .i64 x.v]) sh45 rfl ((hl.sub S).rowAt (enc := It.cells) (i := i) hx) rfl) rfl rfl ?_
    refine RL.alloc ze45 rfl rfl (fun b_6 w_6 e_6 z_6 hb_6 s_6 => ?_)
    have ge_6 := S.le e_6
    have S := S.trans s_6
    refine RL.ev (.assign rfl) rfl rfl ?_
    refine RL.store sh45 rfl rfl rfl hb_6 (by exact Nat.le_of_ble_eq_true rfl) (by rfl) rfl (fun w3 z3 hb_6 a3 => ?_)
    have S := S.upd a3 ge_6
    have hb_6 : Has w3 b_6 ([.int .i64 x.k, .int .i64 x.v]) _ := hb_6.now (by kernel_rfl)
    refine RL.nil (RC.back ?_)
    refine RC.seq ?_
    refine RC.draw rfl mxo (by kernel_rfl) ?_
    refine RQ.ev (.field0 fo45_0 rfl) rfl rfl ?_
    refine RQ.ev (.load1 sh2 rfl (hb_6.cell rfl)) rfl rfl ?_
    refine RQ.ev (.bin rfl rfl rfl) rfl rfl ?_
    refine RQ.ev (.move rfl) rfl rfl ?_
    refine RQ.split 17 rfl (fun h4 => ?_) (fun h4 => ?_)
    ·
      have hno : ¬ keysP nx l := (fun h => by have := (h.1 x hxm).1; omega)
      refine RQ.off rfl rfl ?_
      refine RQ.off rfl rfl ?_
      refine RQ.off rfl rfl ?_
      refine RQ.ev (.pick_t rfl rfl) rfl rfl ?_
      refine RQ.ev (.move rfl) rfl rfl ?_
      refine RQ.off rfl rfl ?_
      refine RQ.off rfl rfl ?_
      refine RQ.off rfl rfl ?_
      refine RQ.off rfl rfl ?_
      refine RQ.off rfl rfl ?_
      refine RQ.off rfl rfl ?_
      refine RQ.off rfl rfl ?_
      refine RQ.off rfl rfl ?_
      refine RQ.off rfl rfl ?_
      refine RQ.off rfl rfl ?_
      refine RQ.off rfl rfl ?_
      refine RQ.off rfl rfl ?_
      refine RQ.off rfl rfl ?_
      refine RQ.ev (.pick_t rfl rfl) rfl rfl ?_
      refine RQ.nil (fun w5 s6 => RC.back ?_)
      have S := S.trans s6
      have hb_6 := hb_6.sub s6
      refine RC.cond_t rfl ?_
      refine RC.seq ?_
      refine RC.region rfl ?_
      refine RL.ev (.assign rfl) rfl rfl ?_
      refine RL.nil (RC.back ?_)
      refine RC.done (rs := [.tmp 4]) (vs := [_]) rfl rfl ⟨rfl, trivial⟩ ?_
      -- end 1
      rw [pB_no hno]
      exact ⟨rfl, S⟩
    ·
      have h17 : -1073741824 ≤ x.k := (by omega)
      refine RQ.ev (.field0 fo45_0 rfl) rfl rfl ?_
      refine RQ.ev (.load1 sh2 rfl (hb_6.cell rfl)) rfl rfl ?_
      refine RQ.ev (.bin rfl rfl rfl) rfl rfl ?_
      refine RQ.ev (.pick_f rfl rfl) rfl rfl ?_
      refine RQ.ev (.move rfl) rfl rfl ?_
      refine RQ.split 22 rfl (fun h7 => ?_) (fun h7 => ?_)
      ·
        have hno : ¬ keysP nx l := (fun h => by have := (h.1 x hxm).2; omega)
        refine RQ.off rfl rfl ?_
        refine RQ.off rfl rfl ?_
        refine RQ.off rfl rfl ?_
        refine RQ.off rfl rfl ?_
        refine RQ.off rfl rfl ?_
        refine RQ.off rfl rfl ?_
        refine RQ.off rfl rfl ?_
        refine RQ.off rfl rfl ?_
        refine RQ.off rfl rfl ?_
        refine RQ.off rfl rfl ?_
        refine RQ.off rfl rfl ?_
        refine RQ.off rfl rfl ?_
        refine RQ.off rfl rfl ?_
        refine RQ.ev (.pick_t rfl rfl) rfl rfl ?_
        refine RQ.nil (fun w8 s9 => RC.back ?_)
        have S := S.trans s9
        have hb_6 := hb_6.sub s9
        refine RC.cond_t rfl ?_
        refine RC.seq ?_
        refine RC.region rfl ?_
        refine RL.ev (.assign rfl) rfl rfl ?_
        refine RL.nil (RC.back ?_)
        refine RC.done (rs := [.tmp 4]) (vs := [_]) rfl rfl ⟨rfl, trivial⟩ ?_
        -- end 2
        rw [pB_no hno]
        exact ⟨rfl, S⟩
      ·
        have h22 : x.k ≤ 1073741824 := (by omega)
        refine RQ.ev (.move rfl) rfl rfl ?_
        refine RQ.ev (.bin rfl rfl rfl) rfl rfl ?_
        refine RQ.ev (.move rfl) rfl rfl ?_
        refine RQ.split 25 rfl (fun h10 => ?_) (fun h10 => ?_)
        ·
          obtain ⟨y, hy⟩ := getSome (l := l) (i := i - 1) (by omega)
          have hxi : l[i - 1 + 1]? = some x := (by rw [show i - 1 + 1 = i by omega]; exact hx)
          refine RQ.ev (.move rfl) rfl rfl ?_
          refine RQ.ev (.move rfl) rfl rfl ?_
          refine RQ.ev (.move rfl) rfl rfl ?_
          refine RQ.ev (.as (.bin rfl rfl rfl) (wi64 (y := ((i - 1 : Nat) : Int)) (by omega) (by omega))) rfl rfl ?_
          refine RQ.ev (.indexS sl22 rfl rfl (by omega) (hl.is (i := 0) (by simp only [List.length_map, List.length_cons, List.length_nil]; omega))) rfl rfl ?_
          refine RQ.ev (.loadR ([.int .i64 y.k, .int .i64 y.v]) sh45 rfl ((hl.sub S).rowAt (enc := It.cells) (i := i - 1) hy) rfl) rfl rfl ?_
          refine RQ.ev (.loadR ([.int .i64 x.k, .int .i64 x.v]) sh45 rfl hb_6.row rfl) rfl rfl ?_
          refine RQ.callv rfl rfl (us := []) (cs := []) hg (fun w' s' => hn y x w') rfl rfl ?_
          refine RQ.ev (.not rfl) rfl rfl ?_
          refine RQ.ev (.pick_t rfl rfl) rfl rfl ?_
          refine RQ.ev (.pick_f rfl rfl) rfl rfl ?_
          refine RQ.nil (fun w11 s12 => RC.back ?_)
          have S := S.trans s12
          have hb_6 := hb_6.sub s12
          refine RC.cond rfl (fun h13 => ?_) (fun h13 => ?_)
          ·
            have hno : ¬ keysP nx l := (fun h => by have q := h.2.1 _ y x hy hxi; have q2 := h13; simp [q] at q2)
            refine RC.seq ?_
            refine RC.region rfl ?_
            refine RL.ev (.assign rfl) rfl rfl ?_
            refine RL.nil (RC.back ?_)
            refine RC.done (rs := [.tmp 4]) (vs := [_]) rfl rfl ⟨rfl, trivial⟩ ?_
            -- end 3
            rw [pB_no hno]
            exact ⟨rfl, S⟩
          ·
            have hyx : nx y x = true := (by simpa using h13)
            refine RC.skip (RC.back ?_)
            refine RC.region rfl ?_
            refine RL.ev (.as (.bin rfl rfl rfl) (wi64 (y := ((i + 1 : Nat) : Int)) (by omega) (by omega))) rfl rfl ?_
            refine RL.ev (.move rfl) rfl rfl ?_
            exact RL.nil (fun a ka => ⟨i + 1, ⟨⟨by omega, fun z hz => by rw [List.take_add_one, hx] at hz; rcases List.mem_append.1 hz with hz | hz; exact hp1 z hz; have e : z = x := (by simpa using hz); rw [e]; exact ⟨h17, h22⟩, fun j z u hj hz hu => by rcases Nat.lt_or_ge (j + 1) i with q | q; exact hp2 j z u q hz hu; obtain rfl : j = i - 1 := (by omega); rw [hy] at hz; rw [hxi] at hu; cases hz; cases hu; exact hyx⟩, S⟩, by omega, ka.keep (keep_of (by repeat (first | exact trivial | refine And.intro rfl ?_)))⟩)
        ·
          have h25 : i = 0 := (by omega)
          refine RQ.off rfl rfl ?_
          refine RQ.off rfl rfl ?_
          refine RQ.off rfl rfl ?_
          refine RQ.off rfl rfl ?_
          refine RQ.off rfl rfl ?_
          refine RQ.off rfl rfl ?_
          refine RQ.off rfl rfl ?_
          refine RQ.off rfl rfl ?_
          refine RQ.off rfl rfl ?_
          refine RQ.ev (.pick_f rfl rfl) rfl rfl ?_
          refine RQ.ev (.pick_f rfl rfl) rfl rfl ?_
          refine RQ.nil (fun w14 s15 => RC.back ?_)
          have S := S.trans s15
          have hb_6 := hb_6.sub s15
          refine RC.cond_f rfl ?_
          refine RC.skip (RC.back ?_)
          refine RC.region rfl ?_
          refine RL.ev (.as (.bin rfl rfl rfl) (wi64 (y := ((i + 1 : Nat) : Int)) (by omega) (by omega))) rfl rfl ?_
          refine RL.ev (.move rfl) rfl rfl ?_
          exact RL.nil (fun a ka => ⟨i + 1, ⟨⟨by omega, fun z hz => by rw [List.take_add_one, hx] at hz; rcases List.mem_append.1 hz with hz | hz; exact hp1 z hz; have e : z = x := (by simpa using hz); rw [e]; exact ⟨h17, h22⟩, fun j z u hj hz hu => absurd hj (by omega)⟩, S⟩, by omega, ka.keep (keep_of (by repeat (first | exact trivial | refine And.intro rfl ?_)))⟩)
  ·
    obtain rfl : i = l.length := (by omega)
    rw [List.take_length] at hp1
    refine RC.exit rfl (RC.back ?_)
    refine RC.seq ?_
    refine RC.region rfl ?_
    refine RL.ev (.move rfl) rfl rfl ?_
    refine RL.ev (.len sl22 rfl) rfl rfl ?_
    refine RL.ev (.bin rfl rfl rfl) rfl rfl ?_
    refine RL.ev (.assign rfl) rfl rfl ?_
    refine RL.nil (RC.back ?_)
    refine RC.done (rs := [.tmp 4]) (vs := [_]) rfl rfl ⟨rfl, trivial⟩ ?_
    -- end 4
    exact ⟨congrArg Value.bool (by rw [Bool.eq_iff_iff, decide_eq_true_iff, pB_iff]; exact ⟨fun h => ⟨hp1, fun j x y h1 h2 => hp2 j x y (lt_of_get h2) h1 h2, by omega⟩, fun h => by have := h.2.2; omega⟩), S⟩
def crowdL (l : List It) (key : Int) : Nat := (l.filter fun x => decide (hashOf x.k = hashOf key)).length
theorem crowdL_step {l : List It} {i : Nat} {x : It} (h : l[i]? = some x) (key : Int) : crowdL (l.take (i + 1)) key = crowdL (l.take i) key + if hashOf x.k = hashOf key then 1 else 0 := by
  unfold crowdL
  rw [filter_take h, List.length_append]
  by_cases q : hashOf x.k = hashOf key
  · rw [if_pos (by simpa using q), if_pos q]; rfl
  · rw [if_neg (by simpa using q), if_neg q]; rfl
theorem crowdL_le (l : List It) (key : Int) : crowdL l key ≤ l.length := List.length_filter_le _ _
theorem c_crowd (l : List It) (a : Option Addr) (c m : Nat) (hm : m = l.length) (key : Int) (w : World) (hl : Sl w a 2 (l.map It.cells)) (hb : l.length ≤ 1000000) :
    FC Try.prog 40 [.slice a m c, .int .i64 key] w (Val (.int .i64 (crowdL l key : Int)) w) := by
  subst hm
  refine FC.intro Try.func40 rfl Try.ntmps40 rfl ?_
  have S := Sub.refl w
  refine RC.seq ?_
  refine RC.region rfl ?_
  refine RL.ev (.assign rfl) rfl rfl ?_
  refine RL.nil (RC.back ?_)
  refine RC.seq ?_
  refine RC.region rfl ?_
  refine RL.ev (.assign rfl) rfl rfl ?_
  refine RL.nil (RC.back ?_)
  refine RC.seq ?_
  refine RC.seq ?_
  refine RC.region rfl ?_
  refine RL.ev (.move rfl) rfl rfl ?_
  refine RL.ev (.len sl22 rfl) rfl rfl ?_
  refine RL.ev (.move rfl) rfl rfl ?_
  refine RL.nil (RC.back ?_)
  refine RC.block ?_
  refine RC.loop (α := Nat × Nat) (fun x => [(1, .int .i64 key), (5, .int .i64 (x.2 : Int)), (8, .slice a l.length c), (9, .int .i64 (l.length : Int)), (10, .int .i64 (x.1 : Int))]) (fun x w1 => (x.1 ≤ l.length ∧ x.2 = crowdL (l.take x.1) key) ∧ Sub w w1) (fun x => l.length - x.1) (0, 0) (keep_of (by repeat (first | exact trivial | refine And.intro rfl ?_))) (⟨⟨Nat.zero_le _, rfl⟩, S⟩) (fun x w1 hJ => ?_)
  obtain ⟨i, n⟩ := x; obtain ⟨⟨hi, hn⟩, S⟩ := hJ; simp only [] at hi hn
  refine RC.seq ?_
  refine RC.region rfl ?_
  refine RL.ev (.bin rfl rfl rfl) rfl rfl ?_
  refine RL.nil (RC.back ?_)
  refine RC.seq ?_
  refine RC.cond_dec rfl (fun h2 => ?_) (fun h2 => ?_)
  ·
    obtain ⟨x, hx⟩ := getSome (l := l) (i := i) (by omega)
    have hst := crowdL_step hx key
    have hcl := crowdL_le (l.take i) key
    rw [List.length_take] at hcl
    refine RC.skip (RC.back ?_)
    refine RC.seq ?_
    refine RC.block ?_
    refine RC.seq ?_
    refine RC.region rfl ?_
    refine RL.ev (.indexS sl22 rfl rfl (by omega) (hl.is (i := 0) (by simp only [List.length_map, List.length_cons, List.length_nil]; omega))) rfl rfl ?_
    refine RL.ev (.loadR ([.int .i64 x.k, .int .i64 x.v]) sh45 rfl ((hl.sub S).rowAt (enc := It.cells) (i := i) hx) rfl) rfl rfl ?_
    refine RL.alloc ze45 rfl rfl (fun b_7 w_7 e_7 z_7 hb_7 s_7 => ?_)
    have ge_7 := S.le e_7
    have S := S.trans s_7
    refine RL.store sh45 rfl rfl rfl hb_7 (by exact Nat.le_of_ble_eq_true rfl) (by rfl) rfl (fun w3 z3 hb_7 a3 => ?_)
    have S := S.upd a3 ge_7
    have hb_7 : Has w3 b_7 ([.int .i64 x.k, .int .i64 x.v]) _ := hb_7.now (by kernel_rfl)
    refine RL.nil (RC.back ?_)
    refine RC.seq ?_
    refine RC.region rfl ?_
    refine RL.ev (.field0 fo45_0 rfl) rfl rfl ?_
    refine RL.ev (.load1 sh2 rfl (hb_7.cell rfl)) rfl rfl ?_
    refine RL.call rfl ok57 (c_hash x.k w3) rfl rfl ?_
    rintro _ w4 ⟨rfl, s5⟩
    have S := S.trans s5
    have hb_7 := hb_7.sub s5
    refine RL.ev (.move rfl) rfl rfl ?_
    refine RL.call rfl ok57 (c_hash key w4) rfl rfl ?_
    rintro _ w6 ⟨rfl, s7⟩
    have S := S.trans s7
    have hb_7 := hb_7.sub s7
    refine RL.ev (.bin rfl rfl rfl) rfl rfl ?_
    refine RL.nil (RC.back ?_)
    refine RC.cond_dec rfl (fun h8 => ?_) (fun h8 => ?_)
    ·
      have h19 : hashOf x.k = hashOf key := (by have := h8; omega)
      rw [if_pos h19] at hst
      refine RC.region rfl ?_
      refine RL.ev (.move rfl) rfl rfl ?_
      refine RL.ev (.as (.bin rfl rfl rfl) (wi64 (y := ((n + 1 : Nat) : Int)) (by omega) (by omega))) rfl rfl ?_
      refine RL.ev (.assign rfl) rfl rfl ?_
      refine RL.nil (RC.back ?_)
      refine RC.region rfl ?_
      refine RL.ev (.as (.bin rfl rfl rfl) (wi64 (y := ((i + 1 : Nat) : Int)) (by omega) (by omega))) rfl rfl ?_
      refine RL.ev (.move rfl) rfl rfl ?_
      exact RL.nil (fun a ka => ⟨(i + 1, n + 1), ⟨⟨by omega, by show n + 1 = crowdL (l.take (i + 1)) key; omega⟩, S⟩, by omega, ka.keep (keep_of (by repeat (first | exact trivial | refine And.intro rfl ?_)))⟩)
    ·
      have h19 : ¬ hashOf x.k = hashOf key := (by have := h8; omega)
      rw [if_neg h19] at hst
      refine RC.skip (RC.back ?_)
      refine RC.region rfl ?_
      refine RL.ev (.as (.bin rfl rfl rfl) (wi64 (y := ((i + 1 : Nat) : Int)) (by omega) (by omega))) rfl rfl ?_
      refine RL.ev (.move rfl) rfl rfl ?_
      exact RL.nil (fun a ka => ⟨(i + 1, n), ⟨⟨by omega, by show n = crowdL (l.take (i + 1)) key; omega⟩, S⟩, by omega, ka.keep (keep_of (by repeat (first | exact trivial | refine And.intro rfl ?_)))⟩)
  ·
    obtain rfl : i = l.length := (by omega)
    rw [List.take_length] at hn
    refine RC.exit rfl (RC.back ?_)
    refine RC.seq ?_
    refine RC.region rfl ?_
    refine RL.ev (.move rfl) rfl rfl ?_
    refine RL.ev (.assign rfl) rfl rfl ?_
    refine RL.nil (RC.back ?_)
    refine RC.done (rs := [.tmp 4]) (vs := [_]) rfl rfl ⟨rfl, trivial⟩ ?_
    -- end 1
    rw [← hn]
    exact ⟨rfl, S⟩
end Go.Proofs.Ytjafbffehmombaa
