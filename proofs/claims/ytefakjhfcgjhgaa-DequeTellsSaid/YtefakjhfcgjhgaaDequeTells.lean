/-
  The statement DequeTells.
-/
import Derived.Test.YtefakjhfcgjhgaaDequeLaws
set_option linter.unusedVariables false
set_option linter.unusedSimpArgs false
namespace Go.Proofs.Ytefakjhfcgjhgaa
open Go Go.XL

set_option maxHeartbeats 4000000 in
theorem law_DequeTells (w : World) (A0 : Ar) (na fa : Option Addr) (nc fc : Nat) (hnc0 : A0.nodes.length ≤ nc) (hfc0 : A0.free.length ≤ fc) (hA0 : ArR w na fa A0) (r : Int) (wr : (Lit.int .u64 r).wf = true) (p : Int) (wp : (Lit.int .i64 p).wf = true) :
    FC Try.prog 9 [arV na fa nc fc A0, .int .u64 r, .int .i64 p] w (Val (.bool true) w) := by
  have hr := wfU wr
  have hpI : I64 p := wfI wp
  have hp : -9223372036854775808 ≤ p ∧ p ≤ 9223372036854775807 := hpI
  have hA := fewD_R hA0
  have hn60 : (fewD A0).nodes.length ≤ 60 := by simp only [fewD, List.length_take]; omega
  have hnc : (fewD A0).nodes.length ≤ nc := by simp only [fewD, List.length_take]; omega
  have hfc : (fewD A0).free.length ≤ fc := by simp only [fewD, List.length_take]; omega
  obtain ⟨A, hAe⟩ : ∃ A, fewD A0 = A := ⟨_, rfl⟩
  rw [hAe] at hA hn60 hnc hfc
  obtain ⟨V, P, hmV⟩ := rowsL A r
  have hF : Ft (· < w.heap.size) (fun u => ArR u na fa A) w := Ft.of_sub fun u s => hA.sub s
  refine FC.intro Try.func9 rfl Try.ntmps9 rfl ?_
  have S := Sub.refl w
  refine RC.seq ?_
  refine RC.region rfl ?_
  refine RL.box rfl rfl rfl (fun b_3 w_3 e_3 z_3 hb_3 s_3 => ?_)
  have ge_3 := S.le e_3
  have S := S.trans s_3
  have hb_3 : Has w_3 b_3 ([.slice na A0.nodes.length nc, .slice fa A0.free.length fc]) _ := hb_3
  refine RL.ev (.assign rfl) rfl rfl ?_
  refine RL.nil (RC.back ?_)
  refine RC.seq ?_
  refine RC.region rfl ?_
  refine RL.ev (.loadR ([.slice na A0.nodes.length nc, .slice fa A0.free.length fc]) sh26 rfl hb_3.row rfl) rfl rfl ?_
  refine RL.call rfl ok21 ((hAe ▸ c_few11 A0 na fa nc fc hnc0 hfc0 w_3)) rfl rfl ?_
  rintro _ w1 ⟨rfl, s2⟩
  have S := S.trans s2
  have hb_3 := hb_3.sub s2
  refine RL.store sh26 rfl rfl rfl hb_3 (by exact Nat.le_of_ble_eq_true rfl) (by rfl) rfl (fun w3 z3 hb_3 a3 => ?_)
  have S := S.upd a3 ge_3
  have hb_3 : Has w3 b_3 ([.slice na A.nodes.length nc, .slice fa A.free.length fc]) _ := hb_3.now (by kernel_rfl)
  refine RL.nil (RC.back ?_)
  refine RC.seq ?_
  refine RC.region rfl ?_
  refine RL.ev (.loadR ([.slice na A.nodes.length nc, .slice fa A.free.length fc]) sh26 rfl hb_3.row rfl) rfl rfl ?_
  refine RL.ev (.move rfl) rfl rfl ?_
  refine RL.call rfl ok12 (c_dRow A na fa nc fc hnc hfc r hr w3 (hA.sub S)) rfl rfl ?_
  rintro _ w4 ⟨s5, a1, c1, V1, e1, rfl, hc1, hs1, hn1, hy1⟩
  have S := S.trans s5
  have hb_3 := hb_3.sub s5
  obtain ⟨W1, S1, hs1⟩ : ∃ W1, Sub W1 w4 ∧ Sl W1 a1 1 (V1.map fun x => [i6 x]) := ⟨_, Sub.refl _, hs1⟩
  refine RL.ev (.move rfl) rfl rfl ?_
  refine RL.ev (.extract rfl rfl) rfl rfl ?_
  refine RL.ev (.extract rfl rfl) rfl rfl ?_
  refine RL.ev (.assign rfl) rfl rfl ?_
  refine RL.ev (.assign rfl) rfl rfl ?_
  refine RL.nil (RC.back ?_)
  refine RC.seq ?_
  refine RC.region rfl ?_
  refine RL.ev (.loadR ([.slice na A.nodes.length nc, .slice fa A.free.length fc]) sh26 rfl hb_3.row rfl) rfl rfl ?_
  refine RL.ev (.move rfl) rfl rfl ?_
  refine RL.call rfl ok20 (c_dSize A na fa nc fc hnc hfc r hr w4 (hA.sub S)) rfl rfl ?_
  rintro _ w6 ⟨s7, n2, e2, rfl, hn2, hy2⟩
  have S := S.trans s7
  have hb_3 := hb_3.sub s7
  have S1 := S1.trans s7
  refine RL.ev (.move rfl) rfl rfl ?_
  refine RL.ev (.extract rfl rfl) rfl rfl ?_
  refine RL.ev (.extract rfl rfl) rfl rfl ?_
  refine RL.ev (.assign rfl) rfl rfl ?_
  refine RL.ev (.assign rfl) rfl rfl ?_
  refine RL.nil (RC.back ?_)
  refine RC.seq ?_
  refine RC.region rfl ?_
  refine RL.ev (.loadR ([.slice na A.nodes.length nc, .slice fa A.free.length fc]) sh26 rfl hb_3.row rfl) rfl rfl ?_
  refine RL.ev (.move rfl) rfl rfl ?_
  refine RL.ev (.move rfl) rfl rfl ?_
  refine RL.call rfl ok18 (c_dAt A na fa nc fc hnc hfc r p hr hpI w6 (hA.sub S)) rfl rfl ?_
  rintro _ w8 ⟨s9, z3, e3, rfl, hn3, hy3⟩
  have S := S.trans s9
  have hb_3 := hb_3.sub s9
  have S1 := S1.trans s9
  refine RL.ev (.move rfl) rfl rfl ?_
  refine RL.ev (.extract rfl rfl) rfl rfl ?_
  refine RL.ev (.extract rfl rfl) rfl rfl ?_
  refine RL.ev (.assign rfl) rfl rfl ?_
  refine RL.ev (.assign rfl) rfl rfl ?_
  refine RL.nil (RC.back ?_)
  refine RC.seq ?_
  refine RC.region rfl ?_
  refine RL.ev (.loadR ([.slice na A.nodes.length nc, .slice fa A.free.length fc]) sh26 rfl hb_3.row rfl) rfl rfl ?_
  refine RL.ev (.move rfl) rfl rfl ?_
  refine RL.call rfl ok22 (c_row11 A na fa nc fc (by omega) r hr w8 (hA.sub S)) rfl rfl ?_
  rintro _ w10 ⟨s11, a4, c4, V4, rfl, hs4, hc4, hl4, hy4⟩
  have S := S.trans s11
  have hb_3 := hb_3.sub s11
  have S1 := S1.trans s11
  obtain ⟨W4, S4, hs4⟩ : ∃ W4, Sub W4 w10 ∧ Sl W4 a4 1 (V4.map fun x => [i6 x]) := ⟨_, Sub.refl _, hs4⟩
  refine RL.ev (.move rfl) rfl rfl ?_
  refine RL.ev (.extract rfl rfl) rfl rfl ?_
  refine RL.ev (.extract rfl rfl) rfl rfl ?_
  refine RL.ev (.assign rfl) rfl rfl ?_
  refine RL.ev (.assign rfl) rfl rfl ?_
  refine RL.nil (RC.back ?_)
  refine RC.seq ?_
  refine RC.seq ?_
  refine RC.region rfl ?_
  refine RL.ev (.loadR ([.slice na A.nodes.length nc, .slice fa A.free.length fc]) sh26 rfl hb_3.row rfl) rfl rfl ?_
  refine RL.ev (.move rfl) rfl rfl ?_
  refine RL.call rfl ok26 (c_dRight A na fa nc fc hnc hfc r hr w10 (hA.sub S)) rfl rfl ?_
  rintro _ w12 ⟨rfl, s13⟩
  have S := S.trans s13
  have hb_3 := hb_3.sub s13
  have S1 := S1.trans s13
  have S4 := S4.trans s13
  refine RL.ev (.move rfl) rfl rfl ?_
  refine RL.ev (.as (v' := .bool false) (.neB bo4 rfl rfl) (congrArg Value.bool (bne_self_eq_false _))) rfl rfl ?_
  refine RL.ev (.move rfl) rfl rfl ?_
  refine RL.call rfl ok13 (c_alive11 w12) rfl rfl ?_
  rintro _ w14 ⟨rfl, s15⟩
  have S := S.trans s15
  have hb_3 := hb_3.sub s15
  have S1 := S1.trans s15
  have S4 := S4.trans s15
  refine RL.ev (.not rfl) rfl rfl ?_
  refine RL.ev (.pick_f rfl rfl) rfl rfl ?_
  refine RL.nil (RC.back ?_)
  refine RC.cond_f rfl ?_
  refine RC.skip (RC.back ?_)
  refine RC.seq ?_
  refine RC.seq ?_
  refine RC.region rfl ?_
  refine RL.ev (.move rfl) rfl rfl ?_
  refine RL.ev (.not rfl) rfl rfl ?_
  refine RL.nil (RC.back ?_)
  refine RC.cond rfl (fun h16 => ?_) (fun h16 => ?_)
  ·
    have hno : ¬ isRow A r := (fun h => by have h2 := h16; rw [isRowB_yes h] at h2; cases h2)
    obtain ⟨q1, q2⟩ := hn1 hno
    obtain ⟨q3, q4⟩ := hn2 hno
    obtain ⟨q5, q6⟩ := hn3 hno
    refine RC.seq ?_
    refine RC.region rfl ?_
    refine RL.ev (.loadR ([.slice na A.nodes.length nc, .slice fa A.free.length fc]) sh26 rfl hb_3.row rfl) rfl rfl ?_
    refine RL.ev (.move rfl) rfl rfl ?_
    refine RL.call rfl ok11 (c_dpush A na fa nc fc hnc hfc r true 1 hr (by unfold I64; decide) _ w14 (hF.sub S)) rfl rfl ?_
    rintro _ w17 ⟨s18, na5, fa5, nc5, fc5, B5, r5, e5, M5, rfl, _, _, _, _, _, hp5⟩
    have S := S.trans s18
    have hb_3 := hb_3.sub s18
    have S1 := S1.trans s18
    have S4 := S4.trans s18
    have q7 := hp5.1 hno
    refine RL.ev (.move rfl) rfl rfl ?_
    refine RL.ev (.extract rfl rfl) rfl rfl ?_
    refine RL.ev (.extract rfl rfl) rfl rfl ?_
    refine RL.ev (.extract rfl rfl) rfl rfl ?_
    refine RL.alloc ze26 rfl rfl (fun b_15 w_15 e_15 z_15 hb_15 s_15 => ?_)
    have ge_15 := S.le e_15
    have n_3__15 := hb_3.ne e_15
    have S := S.trans s_15
    have hb_3 := hb_3.sub s_15
    have geS1_15 := S1.le e_15
    have S1 := S1.trans s_15
    have geS4_15 := S4.le e_15
    have S4 := S4.trans s_15
    refine RL.store sh26 rfl rfl rfl hb_15 (by exact Nat.le_of_ble_eq_true rfl) (by rfl) rfl (fun w19 z19 hb_15 a19 => ?_)
    have S := S.upd a19 ge_15
    have hb_3 := hb_3.upd a19 n_3__15
    have S1 := S1.upd a19 geS1_15
    have S4 := S4.upd a19 geS4_15
    have hb_15 : Has w19 b_15 ([.slice na5 B5.nodes.length nc5, .slice fa5 B5.free.length fc5]) _ := hb_15.now (by kernel_rfl)
    refine RL.ev (.assign rfl) rfl rfl ?_
    refine RL.ev (.assign rfl) rfl rfl ?_
    refine RL.nil (RC.back ?_)
    refine RC.seq ?_
    refine RC.region rfl ?_
    refine RL.ev (.loadR ([.slice na A.nodes.length nc, .slice fa A.free.length fc]) sh26 rfl hb_3.row rfl) rfl rfl ?_
    refine RL.ev (.move rfl) rfl rfl ?_
    refine RL.call rfl ok16 (c_dpop A na fa nc fc hnc hfc r true hr _ w19 (hF.sub S)) rfl rfl ?_
    rintro _ w20 ⟨s21, na6, fa6, nc6, fc6, B6, r6, v6, e6, M6, rfl, _, _, _, _, _, _, q8, _⟩
    have S := S.trans s21
    have hb_3 := hb_3.sub s21
    have S1 := S1.trans s21
    have S4 := S4.trans s21
    have hb_15 := hb_15.sub s21
    have q8 := q8 hno
    refine RL.ev (.move rfl) rfl rfl ?_
    refine RL.ev (.extract rfl rfl) rfl rfl ?_
    refine RL.ev (.extract rfl rfl) rfl rfl ?_
    refine RL.ev (.extract rfl rfl) rfl rfl ?_
    refine RL.ev (.extract rfl rfl) rfl rfl ?_
    refine RL.alloc ze26 rfl rfl (fun b_18 w_18 e_18 z_18 hb_18 s_18 => ?_)
    have ge_18 := S.le e_18
    have n_3__18 := hb_3.ne e_18
    have n_15__18 := hb_15.ne e_18
    have S := S.trans s_18
    have hb_3 := hb_3.sub s_18
    have geS1_18 := S1.le e_18
    have S1 := S1.trans s_18
    have geS4_18 := S4.le e_18
    have S4 := S4.trans s_18
    have hb_15 := hb_15.sub s_18
    refine RL.store sh26 rfl rfl rfl hb_18 (by exact Nat.le_of_ble_eq_true rfl) (by rfl) rfl (fun w22 z22 hb_18 a22 => ?_)
    have S := S.upd a22 ge_18
    have hb_3 := hb_3.upd a22 n_3__18
    have S1 := S1.upd a22 geS1_18
    have S4 := S4.upd a22 geS4_18
    have hb_15 := hb_15.upd a22 n_15__18
    have hb_18 : Has w22 b_18 ([.slice na6 B6.nodes.length nc6, .slice fa6 B6.free.length fc6]) _ := hb_18.now (by kernel_rfl)
    refine RL.ev (.assign rfl) rfl rfl ?_
    refine RL.ev (.assign rfl) rfl rfl ?_
    refine RL.ev (.assign rfl) rfl rfl ?_
    refine RL.nil (RC.back ?_)
    refine RC.seq ?_
    refine RC.region rfl ?_
    refine RL.ev (.loadR ([.slice na A.nodes.length nc, .slice fa A.free.length fc]) sh26 rfl hb_3.row rfl) rfl rfl ?_
    refine RL.ev (.move rfl) rfl rfl ?_
    refine RL.call rfl ok17 (c_dcon A na fa nc fc hnc hfc r 0 hr zu0 _ w22 (hF.sub S)) rfl rfl ?_
    rintro _ w23 ⟨s24, na7, fa7, nc7, fc7, B7, r7, e7, M7, rfl, _, _, _, _, _, hp7⟩
    have S := S.trans s24
    have hb_3 := hb_3.sub s24
    have S1 := S1.trans s24
    have S4 := S4.trans s24
    have hb_15 := hb_15.sub s24
    have hb_18 := hb_18.sub s24
    have q9 := hp7.1 (fun h => hno h.1)
    refine RL.ev (.move rfl) rfl rfl ?_
    refine RL.ev (.extract rfl rfl) rfl rfl ?_
    refine RL.ev (.extract rfl rfl) rfl rfl ?_
    refine RL.ev (.extract rfl rfl) rfl rfl ?_
    refine RL.alloc ze26 rfl rfl (fun b_22 w_22 e_22 z_22 hb_22 s_22 => ?_)
    have ge_22 := S.le e_22
    have n_3__22 := hb_3.ne e_22
    have n_15__22 := hb_15.ne e_22
    have n_18__22 := hb_18.ne e_22
    have S := S.trans s_22
    have hb_3 := hb_3.sub s_22
    have geS1_22 := S1.le e_22
    have S1 := S1.trans s_22
    have geS4_22 := S4.le e_22
    have S4 := S4.trans s_22
    have hb_15 := hb_15.sub s_22
    have hb_18 := hb_18.sub s_22
    refine RL.store sh26 rfl rfl rfl hb_22 (by exact Nat.le_of_ble_eq_true rfl) (by rfl) rfl (fun w25 z25 hb_22 a25 => ?_)
    have S := S.upd a25 ge_22
    have hb_3 := hb_3.upd a25 n_3__22
    have S1 := S1.upd a25 geS1_22
    have S4 := S4.upd a25 geS4_22
    have hb_15 := hb_15.upd a25 n_15__22
    have hb_18 := hb_18.upd a25 n_18__22
    have hb_22 : Has w25 b_22 ([.slice na7 B7.nodes.length nc7, .slice fa7 B7.free.length fc7]) _ := hb_22.now (by kernel_rfl)
    refine RL.ev (.assign rfl) rfl rfl ?_
    refine RL.ev (.assign rfl) rfl rfl ?_
    refine RL.nil (RC.back ?_)
    refine RC.seq ?_
    refine RC.region rfl ?_
    refine RL.ev (.loadR ([.slice na A.nodes.length nc, .slice fa A.free.length fc]) sh26 rfl hb_3.row rfl) rfl rfl ?_
    refine RL.ev (.move rfl) rfl rfl ?_
    refine RL.call rfl ok19 (c_dcut A na fa nc fc hnc hfc r 0 hr (by unfold I64; decide) _ w25 (hF.sub S)) rfl rfl ?_
    rintro _ w26 ⟨s27, na8, fa8, nc8, fc8, B8, r8, r9, e8, M8, rfl, _, _, _, _, _, _, q10, _⟩
    have S := S.trans s27
    have hb_3 := hb_3.sub s27
    have S1 := S1.trans s27
    have S4 := S4.trans s27
    have hb_15 := hb_15.sub s27
    have hb_18 := hb_18.sub s27
    have hb_22 := hb_22.sub s27
    have q10 := q10 hno
    refine RL.ev (.move rfl) rfl rfl ?_
    refine RL.ev (.extract rfl rfl) rfl rfl ?_
    refine RL.ev (.extract rfl rfl) rfl rfl ?_
    refine RL.ev (.extract rfl rfl) rfl rfl ?_
    refine RL.ev (.extract rfl rfl) rfl rfl ?_
    refine RL.alloc ze26 rfl rfl (fun b_25 w_25 e_25 z_25 hb_25 s_25 => ?_)
    have ge_25 := S.le e_25
    have n_3__25 := hb_3.ne e_25
    have n_15__25 := hb_15.ne e_25
    have n_18__25 := hb_18.ne e_25
    have n_22__25 := hb_22.ne e_25
    have S := S.trans s_25
    have hb_3 := hb_3.sub s_25
    have geS1_25 := S1.le e_25
    have S1 := S1.trans s_25
    have geS4_25 := S4.le e_25
    have S4 := S4.trans s_25
    have hb_15 := hb_15.sub s_25
    have hb_18 := hb_18.sub s_25
    have hb_22 := hb_22.sub s_25
    refine RL.store sh26 rfl rfl rfl hb_25 (by exact Nat.le_of_ble_eq_true rfl) (by rfl) rfl (fun w28 z28 hb_25 a28 => ?_)
    have S := S.upd a28 ge_25
    have hb_3 := hb_3.upd a28 n_3__25
    have S1 := S1.upd a28 geS1_25
    have S4 := S4.upd a28 geS4_25
    have hb_15 := hb_15.upd a28 n_15__25
    have hb_18 := hb_18.upd a28 n_18__25
    have hb_22 := hb_22.upd a28 n_22__25
    have hb_25 : Has w28 b_25 ([.slice na8 B8.nodes.length nc8, .slice fa8 B8.free.length fc8]) _ := hb_25.now (by kernel_rfl)
    refine RL.ev (.assign rfl) rfl rfl ?_
    refine RL.ev (.assign rfl) rfl rfl ?_
    refine RL.ev (.assign rfl) rfl rfl ?_
    refine RL.nil (RC.back ?_)
    refine RC.seq ?_
    refine RC.region rfl ?_
    refine RL.ev (.assign rfl) rfl rfl ?_
    refine RL.nil (RC.back ?_)
    refine RC.seq ?_
    refine RC.region rfl ?_
    refine RL.ev (.move rfl) rfl rfl ?_
    refine RL.ev (.move rfl) rfl rfl ?_
    refine RL.ev (.as (v' := .bool true) (.bin rfl rfl rfl) (congrArg Value.bool (decide_eq_true (q2)))) rfl rfl ?_
    refine RL.ev (.move rfl) rfl rfl ?_
    refine RL.ev (.move rfl) rfl rfl ?_
    refine RL.ev (.move rfl) rfl rfl ?_
    refine RL.ev (.as (v' := .bool true) (.bin rfl rfl rfl) (congrArg Value.bool (decide_eq_true (q4)))) rfl rfl ?_
    refine RL.ev (.pick_t rfl rfl) rfl rfl ?_
    refine RL.ev (.move rfl) rfl rfl ?_
    refine RL.ev (.move rfl) rfl rfl ?_
    refine RL.ev (.move rfl) rfl rfl ?_
    refine RL.ev (.as (v' := .bool true) (.bin rfl rfl rfl) (congrArg Value.bool (decide_eq_true (q6)))) rfl rfl ?_
    refine RL.ev (.pick_t rfl rfl) rfl rfl ?_
    refine RL.ev (.move rfl) rfl rfl ?_
    refine RL.ev (.move rfl) rfl rfl ?_
    refine RL.ev (.move rfl) rfl rfl ?_
    refine RL.ev (.as (v' := .bool true) (.bin rfl rfl rfl) (congrArg Value.bool (decide_eq_true (q7)))) rfl rfl ?_
    refine RL.ev (.pick_t rfl rfl) rfl rfl ?_
    refine RL.ev (.move rfl) rfl rfl ?_
    refine RL.ev (.move rfl) rfl rfl ?_
    refine RL.ev (.move rfl) rfl rfl ?_
    refine RL.ev (.as (v' := .bool true) (.bin rfl rfl rfl) (congrArg Value.bool (decide_eq_true (q8)))) rfl rfl ?_
    refine RL.ev (.pick_t rfl rfl) rfl rfl ?_
    refine RL.ev (.move rfl) rfl rfl ?_
    refine RL.ev (.move rfl) rfl rfl ?_
    refine RL.ev (.move rfl) rfl rfl ?_
    refine RL.ev (.as (v' := .bool true) (.bin rfl rfl rfl) (congrArg Value.bool (decide_eq_true (q9)))) rfl rfl ?_
    refine RL.ev (.pick_t rfl rfl) rfl rfl ?_
    refine RL.ev (.move rfl) rfl rfl ?_
    refine RL.ev (.move rfl) rfl rfl ?_
    refine RL.ev (.move rfl) rfl rfl ?_
    refine RL.ev (.as (v' := .bool true) (.bin rfl rfl rfl) (congrArg Value.bool (decide_eq_true (q10)))) rfl rfl ?_
    refine RL.ev (.pick_t rfl rfl) rfl rfl ?_
    refine RL.ev (.move rfl) rfl rfl ?_
    refine RL.ev (.move rfl) rfl rfl ?_
    refine RL.ev (.as (v' := .int .i64 0) (.len sl22 rfl) (by rw [q1]; rfl)) rfl rfl ?_
    refine RL.ev (.as (v' := .bool true) (.bin rfl rfl rfl) (congrArg Value.bool (decide_eq_true (rfl)))) rfl rfl ?_
    refine RL.ev (.pick_t rfl rfl) rfl rfl ?_
    refine RL.ev (.move rfl) rfl rfl ?_
    refine RL.ev (.move rfl) rfl rfl ?_
    refine RL.ev (.as (v' := .bool true) (.bin rfl rfl rfl) (congrArg Value.bool (decide_eq_true (q3)))) rfl rfl ?_
    refine RL.ev (.pick_t rfl rfl) rfl rfl ?_
    refine RL.ev (.move rfl) rfl rfl ?_
    refine RL.ev (.move rfl) rfl rfl ?_
    refine RL.ev (.as (v' := .bool true) (.bin rfl rfl rfl) (congrArg Value.bool (decide_eq_true (q5)))) rfl rfl ?_
    refine RL.ev (.pick_t rfl rfl) rfl rfl ?_
    refine RL.ev (.assign rfl) rfl rfl ?_
    refine RL.nil (RC.back ?_)
    refine RC.done (rs := [.tmp 6]) (vs := [_]) rfl rfl ⟨rfl, trivial⟩ ?_
    -- end 1
    exact ⟨rfl, S⟩
  ·
    have hmap : isRow A r := (isRowB_iff A r).1 (by simpa using h16)
    have hV := hmV hmap
    have hVl := isRow_len hmap hV
    obtain ⟨rfl, rfl⟩ := hy1 V P hmap hV
    obtain ⟨q3, q4⟩ := hy2 V1 P hmap hV
    have hz3 := hy3 V1 P hmap hV
    obtain rfl := hy4 V1 P hmap hV
    refine RC.skip (RC.back ?_)
    refine RC.seq ?_
    refine RC.seq ?_
    refine RC.region rfl ?_
    refine RL.ev (.move rfl) rfl rfl ?_
    refine RL.ev (.as (v' := .bool false) (.bin rfl rfl rfl) (congrArg Value.bool (decide_eq_false (fun h => h rfl)))) rfl rfl ?_
    refine RL.ev (.move rfl) rfl rfl ?_
    refine RL.ev (.move rfl) rfl rfl ?_
    refine RL.ev (.as (v' := .bool false) (.bin rfl rfl rfl) (congrArg Value.bool (decide_eq_false (fun h => h q4)))) rfl rfl ?_
    refine RL.ev (.pick_f rfl rfl) rfl rfl ?_
    refine RL.ev (.move rfl) rfl rfl ?_
    refine RL.ev (.move rfl) rfl rfl ?_
    refine RL.ev (.move rfl) rfl rfl ?_
    refine RL.call rfl ok14 (c_same11 V4 V4 a1 a4 c1 c4 _ _ (List.length_map _) (List.length_map _) w14 (hs1.sub S1) (hs4.sub S4) (by omega)) rfl rfl ?_
    rintro _ w29 ⟨rfl, s30⟩
    have S := S.trans s30
    have hb_3 := hb_3.sub s30
    have S1 := S1.trans s30
    have S4 := S4.trans s30
    refine RL.ev (.as (v' := .bool false) (.not rfl) (congrArg Value.bool (by rw [decide_eq_true rfl]; rfl))) rfl rfl ?_
    refine RL.ev (.pick_f rfl rfl) rfl rfl ?_
    refine RL.ev (.move rfl) rfl rfl ?_
    refine RL.ev (.move rfl) rfl rfl ?_
    refine RL.ev (.move rfl) rfl rfl ?_
    refine RL.ev (.as (v' := .int .i64 (V4.length : Int)) (.len sl22 rfl) (by rw [List.length_map])) rfl rfl ?_
    refine RL.ev (.as (v' := .bool false) (.bin rfl rfl rfl) (congrArg Value.bool (decide_eq_false (fun h => h q3)))) rfl rfl ?_
    refine RL.ev (.pick_f rfl rfl) rfl rfl ?_
    refine RL.nil (RC.back ?_)
    refine RC.cond_f rfl ?_
    refine RC.skip (RC.back ?_)
    refine RC.seq ?_
    refine RC.seq ?_
    refine RC.region rfl ?_
    refine RL.ev (.move rfl) rfl rfl ?_
    refine RL.ev (.bin rfl rfl rfl) rfl rfl ?_
    refine RL.ev (.move rfl) rfl rfl ?_
    refine RL.split 164 rfl (fun h31 => ?_) (fun h31 => ?_)
    ·
      have h164 := h31
      refine RL.off rfl rfl ?_
      refine RL.off rfl rfl ?_
      refine RL.off rfl rfl ?_
      refine RL.off rfl rfl ?_
      refine RL.ev (.pick_t rfl rfl) rfl rfl ?_
      refine RL.nil (RC.back ?_)
      refine RC.cond_t rfl ?_
      refine RC.seq ?_
      refine RC.region rfl ?_
      refine RL.ev (.move rfl) rfl rfl ?_
      refine RL.ev (.as (v' := .bool true) (.bin rfl rfl rfl) (congrArg Value.bool (decide_eq_true ((hz3.resolve_right (fun h => by omega)).2.2)))) rfl rfl ?_
      refine RL.ev (.move rfl) rfl rfl ?_
      refine RL.ev (.move rfl) rfl rfl ?_
      refine RL.ev (.as (v' := .bool true) (.bin rfl rfl rfl) (congrArg Value.bool (decide_eq_true ((hz3.resolve_right (fun h => by omega)).2.1)))) rfl rfl ?_
      refine RL.ev (.pick_t rfl rfl) rfl rfl ?_
      refine RL.ev (.assign rfl) rfl rfl ?_
      refine RL.nil (RC.back ?_)
      refine RC.done (rs := [.tmp 6]) (vs := [_]) rfl rfl ⟨rfl, trivial⟩ ?_
      -- end 2
      exact ⟨rfl, S⟩
    ·
      have h164 := h31
      refine RL.ev (.move rfl) rfl rfl ?_
      refine RL.ev (.move rfl) rfl rfl ?_
      refine RL.ev (.as (v' := .int .i64 (V4.length : Int)) (.len sl22 rfl) (by rw [List.length_map])) rfl rfl ?_
      refine RL.ev (.bin rfl rfl rfl) rfl rfl ?_
      refine RL.ev (.pick_f rfl rfl) rfl rfl ?_
      refine RL.nil (RC.back ?_)
      refine RC.cond_dec rfl (fun h32 => ?_) (fun h32 => ?_)
      ·
        have h169 := h32
        refine RC.seq ?_
        refine RC.region rfl ?_
        refine RL.ev (.move rfl) rfl rfl ?_
        refine RL.ev (.as (v' := .bool true) (.bin rfl rfl rfl) (congrArg Value.bool (decide_eq_true ((hz3.resolve_right (fun h => by omega)).2.2)))) rfl rfl ?_
        refine RL.ev (.move rfl) rfl rfl ?_
        refine RL.ev (.move rfl) rfl rfl ?_
        refine RL.ev (.as (v' := .bool true) (.bin rfl rfl rfl) (congrArg Value.bool (decide_eq_true ((hz3.resolve_right (fun h => by omega)).2.1)))) rfl rfl ?_
        refine RL.ev (.pick_t rfl rfl) rfl rfl ?_
        refine RL.ev (.assign rfl) rfl rfl ?_
        refine RL.nil (RC.back ?_)
        refine RC.done (rs := [.tmp 6]) (vs := [_]) rfl rfl ⟨rfl, trivial⟩ ?_
        -- end 3
        exact ⟨rfl, S⟩
      ·
        obtain ⟨_, _, z1, z2⟩ := hz3.resolve_left (fun h => h.1 (by omega))
        obtain ⟨y, hy⟩ := getSome (l := V4) (i := p.toNat) (by omega)
        refine RC.skip (RC.back ?_)
        refine RC.seq ?_
        refine RC.region rfl ?_
        refine RL.ev (.move rfl) rfl rfl ?_
        refine RL.ev (.as (v' := .bool true) (.bin rfl rfl rfl) (congrArg Value.bool (decide_eq_true (z2)))) rfl rfl ?_
        refine RL.ev (.move rfl) rfl rfl ?_
        refine RL.ev (.move rfl) rfl rfl ?_
        refine RL.ev (.move rfl) rfl rfl ?_
        refine RL.ev (.move rfl) rfl rfl ?_
        refine RL.ev (.indexS sl22 rfl rfl (by rw [List.length_map]; omega) (hs4.is (i := 0) (by simp only [List.length_map]; omega))) rfl rfl ?_
        refine RL.ev (.load1 sh2 rfl ((hs4.sub S4).one (enc := i6) hy)) rfl rfl ?_
        refine RL.ev (.as (v' := .bool true) (.bin rfl rfl rfl) (congrArg Value.bool (decide_eq_true (by rw [z1, List.getD_eq_getElem?_getD, hy]; rfl)))) rfl rfl ?_
        refine RL.ev (.pick_t rfl rfl) rfl rfl ?_
        refine RL.ev (.assign rfl) rfl rfl ?_
        refine RL.nil (RC.back ?_)
        refine RC.done (rs := [.tmp 6]) (vs := [_]) rfl rfl ⟨rfl, trivial⟩ ?_
        -- end 4
        exact ⟨rfl, S⟩
end Go.Proofs.Ytefakjhfcgjhgaa
