/-
  The statement TreapTells.
-/
import Derived.Test.YtekdjjppdijkmaaTreapLaws
set_option linter.unusedVariables false
set_option linter.unusedSimpArgs false
namespace Go.Proofs.Ytekdjjppdijkmaa
open Go Go.XL

theorem idxK {α β : Type} {l : List α} {f : α → β} {p : Int} (h : 0 ≤ p ∧ p < l.length) : 0 ≤ p ∧ p < ((l.map f).length : Nat) := by rw [List.length_map]; exact h
theorem hasK_out {L : List It} {key : Int} (h : hasK L key = false) : ∀ x ∈ L, ¬ x.k = key := by
  intro x hx e
  have : hasK L key = true := by unfold hasK; rw [List.any_eq_true]; exact ⟨x, hx, by simpa using e⟩
  rw [this] at h; cases h
set_option maxHeartbeats 4000000 in
theorem law_TreapTells (w : World) (A0 : Ar) (na fa : Option Addr) (nc fc : Nat) (hnc0 : A0.nodes.length ≤ nc) (hfc0 : A0.free.length ≤ fc) (hA0 : ArR w na fa A0) (r : Int) (wr : (Lit.int .u64 r).wf = true) (key : Int) (wk : (Lit.int .i64 key).wf = true) :
    FC Try.prog 11 [arV na fa nc fc A0, .int .u64 r, .int .i64 key] w (Val (.bool true) w) := by
  have hr := wfU wr
  have hk := wfI wk
  have hA := few60_R hA0
  have hn60 : (few60 A0).nodes.length ≤ 60 := by simp only [few60, List.length_take]; omega
  have hnc : (few60 A0).nodes.length ≤ nc := by simp only [few60, List.length_take]; omega
  have hfc : (few60 A0).free.length ≤ fc := by simp only [few60, List.length_take]; omega
  obtain ⟨A, hAe⟩ : ∃ A, few60 A0 = A := ⟨_, rfl⟩
  rw [hAe] at hA hn60 hnc hfc
  have hrow := isMap_row (A := A) (r := r)
  obtain ⟨L, hL⟩ : ∃ L, rowF A 202 r 201 = L := ⟨_, rfl⟩
  rw [hL] at hrow
  have hF : Ft (· < w.heap.size) (fun u => ArR u na fa A) w := Ft.of_sub fun u s => hA.sub s
  refine FC.intro Try.func11 rfl Try.ntmps11 rfl ?_
  have S := Sub.refl w
  refine RC.seq ?_
  refine RC.region rfl ?_
  refine RL.box rfl rfl rfl (fun b_3 w_3 e_3 z_3 hb_3 s_3 => ?_)
  have ge_3 := S.le e_3
  have S := S.trans s_3
  have hb_3 : Has w_3 b_3 ([.slice na A0.nodes.length nc, .slice fa A0.free.length fc]) _ := hb_3
  refine RL.ev (.assign rfl) rfl rfl ?_
  refine RL.nil (RC.back ?_)
  refine RC.seq ?_
  refine RC.region rfl ?_
  refine RL.ev (.loadR ([.slice na A0.nodes.length nc, .slice fa A0.free.length fc]) sh28 rfl hb_3.row rfl) rfl rfl ?_
  refine RL.call rfl ok35 ((hAe ▸ c_few6 A0 na fa nc fc hnc0 hfc0 w_3)) rfl rfl ?_
  rintro _ w1 ⟨rfl, s2⟩
  have S := S.trans s2
  have hb_3 := hb_3.sub s2
  refine RL.store sh28 rfl rfl rfl hb_3 (by exact Nat.le_of_ble_eq_true rfl) (by rfl) rfl (fun w3 z3 hb_3 a3 => ?_)
  have S := S.upd a3 ge_3
  have hb_3 : Has w3 b_3 ([.slice na A.nodes.length nc, .slice fa A.free.length fc]) _ := hb_3.now (by kernel_rfl)
  refine RL.nil (RC.back ?_)
  refine RC.seq ?_
  refine RC.region rfl ?_
  refine RL.ev (.loadR ([.slice na A.nodes.length nc, .slice fa A.free.length fc]) sh28 rfl hb_3.row rfl) rfl rfl ?_
  refine RL.ev (.move rfl) rfl rfl ?_
  refine RL.ev (.move rfl) rfl rfl ?_
  refine RL.call rfl ok36 (c_tget A na fa nc fc hnc hfc r key hr _ w3 (hF.sub S)) rfl rfl ?_
  rintro _ w4 ⟨s5, v1, e1, rfl, hn1, hy1⟩
  have S := S.trans s5
  have hb_3 := hb_3.sub s5
  refine RL.ev (.move rfl) rfl rfl ?_
  refine RL.ev (.extract rfl rfl) rfl rfl ?_
  refine RL.ev (.extract rfl rfl) rfl rfl ?_
  refine RL.ev (.assign rfl) rfl rfl ?_
  refine RL.ev (.assign rfl) rfl rfl ?_
  refine RL.nil (RC.back ?_)
  refine RC.seq ?_
  refine RC.seq ?_
  refine RC.draw rfl mxo (by kernel_rfl) ?_
  refine RQ.ev (.loadR ([.slice na A.nodes.length nc, .slice fa A.free.length fc]) sh28 rfl hb_3.row rfl) rfl rfl ?_
  refine RQ.ev (.move rfl) rfl rfl ?_
  refine RQ.call rfl ok37 (fun w' s' => c_tRight A na fa nc fc r hr w' (hA.sub (S.trans s'))) rfl rfl ?_
  refine RQ.ev (.loadR ([.slice na A.nodes.length nc, .slice fa A.free.length fc]) sh28 rfl hb_3.row rfl) rfl rfl ?_
  refine RQ.ev (.move rfl) rfl rfl ?_
  refine RQ.call rfl ok23 (fun w' s' => c_refRight6 A na fa nc fc (by omega) r hr w' (hA.sub (S.trans s'))) rfl rfl ?_
  refine RQ.ev (.as (v' := .bool false) (.neB bo4 rfl rfl) (congrArg Value.bool (bne_self_eq_false _))) rfl rfl ?_
  refine RQ.ev (.move rfl) rfl rfl ?_
  refine RQ.call rfl ok28 (fun w' s' => c_alive6 w') rfl rfl ?_
  refine RQ.ev (.not rfl) rfl rfl ?_
  refine RQ.ev (.pick_f rfl rfl) rfl rfl ?_
  refine RQ.nil (fun w6 s7 => RC.back ?_)
  have S := S.trans s7
  have hb_3 := hb_3.sub s7
  refine RC.cond_f rfl ?_
  refine RC.skip (RC.back ?_)
  refine RC.seq ?_
  refine RC.seq ?_
  refine RC.region rfl ?_
  refine RL.ev (.loadR ([.slice na A.nodes.length nc, .slice fa A.free.length fc]) sh28 rfl hb_3.row rfl) rfl rfl ?_
  refine RL.ev (.move rfl) rfl rfl ?_
  refine RL.call rfl ok23 (c_refRight6 A na fa nc fc (by omega) r hr w6 (hA.sub S)) rfl rfl ?_
  rintro _ w8 ⟨rfl, s9⟩
  have S := S.trans s9
  have hb_3 := hb_3.sub s9
  refine RL.ev (.not rfl) rfl rfl ?_
  refine RL.nil (RC.back ?_)
  refine RC.cond rfl (fun h10 => ?_) (fun h10 => ?_)
  ·
    have hno : ¬ isMap A r := (fun h => by have h2 := h10; rw [isMapB_yes h] at h2; cases h2)
    obtain ⟨q1, q2⟩ := hn1 hno
    refine RC.seq ?_
    refine RC.region rfl ?_
    refine RL.ev (.loadR ([.slice na A.nodes.length nc, .slice fa A.free.length fc]) sh28 rfl hb_3.row rfl) rfl rfl ?_
    refine RL.ev (.move rfl) rfl rfl ?_
    refine RL.ev (.move rfl) rfl rfl ?_
    refine RL.call rfl ok27 (c_tput A na fa nc fc hnc hfc r key 1 hr hk (by unfold I64; decide) _ w8 (hF.sub S)) rfl rfl ?_
    rintro _ w11 ⟨s12, na1, fa1, nc1, fc1, B1, r1, e2, M1, rfl, _, _, _, _, _, hp1⟩
    have S := S.trans s12
    have hb_3 := hb_3.sub s12
    have q3 := hp1.1 hno
    refine RL.ev (.move rfl) rfl rfl ?_
    refine RL.ev (.extract rfl rfl) rfl rfl ?_
    refine RL.ev (.extract rfl rfl) rfl rfl ?_
    refine RL.ev (.extract rfl rfl) rfl rfl ?_
    refine RL.alloc ze28 rfl rfl (fun b_9 w_9 e_9 z_9 hb_9 s_9 => ?_)
    have ge_9 := S.le e_9
    have n_3__9 := hb_3.ne e_9
    have S := S.trans s_9
    have hb_3 := hb_3.sub s_9
    refine RL.store sh28 rfl rfl rfl hb_9 (by exact Nat.le_of_ble_eq_true rfl) (by rfl) rfl (fun w13 z13 hb_9 a13 => ?_)
    have S := S.upd a13 ge_9
    have hb_3 := hb_3.upd a13 n_3__9
    have hb_9 : Has w13 b_9 ([.slice na1 B1.nodes.length nc1, .slice fa1 B1.free.length fc1]) _ := hb_9.now (by kernel_rfl)
    refine RL.ev (.assign rfl) rfl rfl ?_
    refine RL.ev (.assign rfl) rfl rfl ?_
    refine RL.nil (RC.back ?_)
    refine RC.seq ?_
    refine RC.region rfl ?_
    refine RL.ev (.loadR ([.slice na A.nodes.length nc, .slice fa A.free.length fc]) sh28 rfl hb_3.row rfl) rfl rfl ?_
    refine RL.ev (.move rfl) rfl rfl ?_
    refine RL.ev (.move rfl) rfl rfl ?_
    refine RL.call rfl ok30 (c_tdel A na fa nc fc hnc hfc r key hr hk _ w13 (hF.sub S)) rfl rfl ?_
    rintro _ w14 ⟨s15, na2, fa2, nc2, fc2, B2, r2, e3, M2, rfl, _, _, _, _, _, hp2⟩
    have S := S.trans s15
    have hb_3 := hb_3.sub s15
    have hb_9 := hb_9.sub s15
    have q4 := hp2.1 hno
    refine RL.ev (.move rfl) rfl rfl ?_
    refine RL.ev (.extract rfl rfl) rfl rfl ?_
    refine RL.ev (.extract rfl rfl) rfl rfl ?_
    refine RL.ev (.extract rfl rfl) rfl rfl ?_
    refine RL.alloc ze28 rfl rfl (fun b_12 w_12 e_12 z_12 hb_12 s_12 => ?_)
    have ge_12 := S.le e_12
    have n_3__12 := hb_3.ne e_12
    have n_9__12 := hb_9.ne e_12
    have S := S.trans s_12
    have hb_3 := hb_3.sub s_12
    have hb_9 := hb_9.sub s_12
    refine RL.store sh28 rfl rfl rfl hb_12 (by exact Nat.le_of_ble_eq_true rfl) (by rfl) rfl (fun w16 z16 hb_12 a16 => ?_)
    have S := S.upd a16 ge_12
    have hb_3 := hb_3.upd a16 n_3__12
    have hb_9 := hb_9.upd a16 n_9__12
    have hb_12 : Has w16 b_12 ([.slice na2 B2.nodes.length nc2, .slice fa2 B2.free.length fc2]) _ := hb_12.now (by kernel_rfl)
    refine RL.ev (.assign rfl) rfl rfl ?_
    refine RL.ev (.assign rfl) rfl rfl ?_
    refine RL.nil (RC.back ?_)
    refine RC.seq ?_
    refine RC.region rfl ?_
    refine RL.ev (.loadR ([.slice na A.nodes.length nc, .slice fa A.free.length fc]) sh28 rfl hb_3.row rfl) rfl rfl ?_
    refine RL.ev (.move rfl) rfl rfl ?_
    refine RL.ev (.move rfl) rfl rfl ?_
    refine RL.call rfl ok33 (c_tsplit A na fa nc fc hnc hfc r key hr hk _ w16 (hF.sub S)) rfl rfl ?_
    rintro _ w17 ⟨s18, na3, fa3, nc3, fc3, B3, r3, r3b, e4, M3, rfl, _, _, _, _, _, _, q5, _⟩
    have S := S.trans s18
    have hb_3 := hb_3.sub s18
    have hb_9 := hb_9.sub s18
    have hb_12 := hb_12.sub s18
    have q5 := q5 hno
    refine RL.ev (.move rfl) rfl rfl ?_
    refine RL.ev (.extract rfl rfl) rfl rfl ?_
    refine RL.ev (.extract rfl rfl) rfl rfl ?_
    refine RL.ev (.extract rfl rfl) rfl rfl ?_
    refine RL.ev (.extract rfl rfl) rfl rfl ?_
    refine RL.alloc ze28 rfl rfl (fun b_15 w_15 e_15 z_15 hb_15 s_15 => ?_)
    have ge_15 := S.le e_15
    have n_3__15 := hb_3.ne e_15
    have n_9__15 := hb_9.ne e_15
    have n_12__15 := hb_12.ne e_15
    have S := S.trans s_15
    have hb_3 := hb_3.sub s_15
    have hb_9 := hb_9.sub s_15
    have hb_12 := hb_12.sub s_15
    refine RL.store sh28 rfl rfl rfl hb_15 (by exact Nat.le_of_ble_eq_true rfl) (by rfl) rfl (fun w19 z19 hb_15 a19 => ?_)
    have S := S.upd a19 ge_15
    have hb_3 := hb_3.upd a19 n_3__15
    have hb_9 := hb_9.upd a19 n_9__15
    have hb_12 := hb_12.upd a19 n_12__15
    have hb_15 : Has w19 b_15 ([.slice na3 B3.nodes.length nc3, .slice fa3 B3.free.length fc3]) _ := hb_15.now (by kernel_rfl)
    refine RL.ev (.assign rfl) rfl rfl ?_
    refine RL.ev (.assign rfl) rfl rfl ?_
    refine RL.ev (.assign rfl) rfl rfl ?_
    refine RL.nil (RC.back ?_)
    refine RC.seq ?_
    refine RC.region rfl ?_
    refine RL.ev (.loadR ([.slice na A.nodes.length nc, .slice fa A.free.length fc]) sh28 rfl hb_3.row rfl) rfl rfl ?_
    refine RL.ev (.move rfl) rfl rfl ?_
    refine RL.call rfl ok34 (c_tjoin A na fa nc fc hnc hfc r 0 hr u0 _ w19 (hF.sub S)) rfl rfl ?_
    rintro _ w20 ⟨s21, na4, fa4, nc4, fc4, B4, r4, e5, M4, rfl, _, _, _, _, _, hp4⟩
    have S := S.trans s21
    have hb_3 := hb_3.sub s21
    have hb_9 := hb_9.sub s21
    have hb_12 := hb_12.sub s21
    have hb_15 := hb_15.sub s21
    have q6 := hp4.1 (fun h => hno h.1)
    refine RL.ev (.move rfl) rfl rfl ?_
    refine RL.ev (.extract rfl rfl) rfl rfl ?_
    refine RL.ev (.extract rfl rfl) rfl rfl ?_
    refine RL.ev (.extract rfl rfl) rfl rfl ?_
    refine RL.alloc ze28 rfl rfl (fun b_19 w_19 e_19 z_19 hb_19 s_19 => ?_)
    have ge_19 := S.le e_19
    have n_3__19 := hb_3.ne e_19
    have n_9__19 := hb_9.ne e_19
    have n_12__19 := hb_12.ne e_19
    have n_15__19 := hb_15.ne e_19
    have S := S.trans s_19
    have hb_3 := hb_3.sub s_19
    have hb_9 := hb_9.sub s_19
    have hb_12 := hb_12.sub s_19
    have hb_15 := hb_15.sub s_19
    refine RL.store sh28 rfl rfl rfl hb_19 (by exact Nat.le_of_ble_eq_true rfl) (by rfl) rfl (fun w22 z22 hb_19 a22 => ?_)
    have S := S.upd a22 ge_19
    have hb_3 := hb_3.upd a22 n_3__19
    have hb_9 := hb_9.upd a22 n_9__19
    have hb_12 := hb_12.upd a22 n_12__19
    have hb_15 := hb_15.upd a22 n_15__19
    have hb_19 : Has w22 b_19 ([.slice na4 B4.nodes.length nc4, .slice fa4 B4.free.length fc4]) _ := hb_19.now (by kernel_rfl)
    refine RL.ev (.assign rfl) rfl rfl ?_
    refine RL.ev (.assign rfl) rfl rfl ?_
    refine RL.nil (RC.back ?_)
    refine RC.seq ?_
    refine RC.region rfl ?_
    refine RL.ev (.assign rfl) rfl rfl ?_
    refine RL.nil (RC.back ?_)
    refine RC.seq ?_
    refine RC.region rfl ?_
    refine RL.ev (.move rfl) rfl rfl ?_
    refine RL.ev (.move rfl) rfl rfl ?_
    refine RL.ev (.as (v' := .bool true) (.bin rfl rfl rfl) (congrArg Value.bool (decide_eq_true (q2)))) rfl rfl ?_
    refine RL.ev (.move rfl) rfl rfl ?_
    refine RL.ev (.move rfl) rfl rfl ?_
    refine RL.ev (.move rfl) rfl rfl ?_
    refine RL.ev (.as (v' := .bool true) (.bin rfl rfl rfl) (congrArg Value.bool (decide_eq_true (q3)))) rfl rfl ?_
    refine RL.ev (.pick_t rfl rfl) rfl rfl ?_
    refine RL.ev (.move rfl) rfl rfl ?_
    refine RL.ev (.move rfl) rfl rfl ?_
    refine RL.ev (.move rfl) rfl rfl ?_
    refine RL.ev (.as (v' := .bool true) (.bin rfl rfl rfl) (congrArg Value.bool (decide_eq_true (q4)))) rfl rfl ?_
    refine RL.ev (.pick_t rfl rfl) rfl rfl ?_
    refine RL.ev (.move rfl) rfl rfl ?_
    refine RL.ev (.move rfl) rfl rfl ?_
    refine RL.ev (.move rfl) rfl rfl ?_
    refine RL.ev (.as (v' := .bool true) (.bin rfl rfl rfl) (congrArg Value.bool (decide_eq_true (q5)))) rfl rfl ?_
    refine RL.ev (.pick_t rfl rfl) rfl rfl ?_
    refine RL.ev (.move rfl) rfl rfl ?_
    refine RL.ev (.move rfl) rfl rfl ?_
    refine RL.ev (.move rfl) rfl rfl ?_
    refine RL.ev (.as (v' := .bool true) (.bin rfl rfl rfl) (congrArg Value.bool (decide_eq_true (q6)))) rfl rfl ?_
    refine RL.ev (.pick_t rfl rfl) rfl rfl ?_
    refine RL.ev (.move rfl) rfl rfl ?_
    refine RL.ev (.move rfl) rfl rfl ?_
    refine RL.ev (.as (v' := .bool true) (.bin rfl rfl rfl) (congrArg Value.bool (decide_eq_true (q1)))) rfl rfl ?_
    refine RL.ev (.pick_t rfl rfl) rfl rfl ?_
    refine RL.ev (.assign rfl) rfl rfl ?_
    refine RL.nil (RC.back ?_)
    refine RC.done (rs := [.tmp 6]) (vs := [_]) rfl rfl ⟨rfl, trivial⟩ ?_
    -- end 1
    exact ⟨rfl, S⟩
  ·
    have hmap : isMap A r := (isMapB_iff A r).1 (by simpa using h10)
    obtain ⟨hT, hL200⟩ := hrow hmap
    have hLs := hT.srt
    have hy := hy1 L hmap hT
    refine RC.skip (RC.back ?_)
    refine RC.seq ?_
    refine RC.region rfl ?_
    refine RL.ev (.loadR ([.slice na A.nodes.length nc, .slice fa A.free.length fc]) sh28 rfl hb_3.row rfl) rfl rfl ?_
    refine RL.ev (.move rfl) rfl rfl ?_
    refine RL.call rfl ok24 (c_refRow A na fa nc fc (by omega) 202 r 201 w8 hr (by decide) (by decide) (by decide) (hA.sub S)) rfl rfl ?_
    rintro vr w23 ⟨ra, rc, hvr, o1, s24⟩
    have S := S.trans s24
    have hb_3 := hb_3.sub s24
    rw [hL] at hvr o1
    subst hvr
    obtain ⟨W1, S1, hl⟩ : ∃ W1, Sub W1 w23 ∧ Sl W1 ra 2 (L.map It.cells) := ⟨_, Sub.refl _, o1.sl.1⟩
    refine RL.ev (.assign rfl) rfl rfl ?_
    refine RL.nil (RC.back ?_)
    refine RC.seq ?_
    refine RC.seq ?_
    refine RC.region rfl ?_
    refine RL.ev (.move rfl) rfl rfl ?_
    refine RL.ev (.move rfl) rfl rfl ?_
    refine RL.call rfl ok17 (c_refAt6 L ra rc _ (List.length_map _) key w23 (hl.sub S1) (by omega)) rfl rfl ?_
    rintro _ w25 ⟨s26, n1, rfl, hn⟩
    have S := S.trans s26
    have hb_3 := hb_3.sub s26
    have S1 := S1.trans s26
    refine RL.ev (.assign rfl) rfl rfl ?_
    refine RL.nil (RC.back ?_)
    refine RC.seq ?_
    refine RC.region rfl ?_
    refine RL.ev (.move rfl) rfl rfl ?_
    refine RL.ev (.bin rfl rfl rfl) rfl rfl ?_
    refine RL.nil (RC.back ?_)
    refine RC.cond_dec rfl (fun h27 => ?_) (fun h27 => ?_)
    ·
      obtain ⟨hn0, hhas, y, hy1, hyk⟩ := hn.resolve_left (fun h => by omega)
      obtain ⟨⟨x, hx, hxk, hxv⟩, he⟩ := hy.resolve_left (fun h => h.1 y (List.mem_of_getElem? hy1) hyk)
      obtain rfl : x = y := srt_key hLs hx (List.mem_of_getElem? hy1) (hxk.trans hyk.symm)
      have hnl := lt_of_get hy1
      refine RC.seq ?_
      refine RC.region rfl ?_
      refine RL.ev (.move rfl) rfl rfl ?_
      refine RL.ev (.as (v' := .bool true) (.bin rfl rfl rfl) (congrArg Value.bool (decide_eq_true (he)))) rfl rfl ?_
      refine RL.ev (.move rfl) rfl rfl ?_
      refine RL.ev (.move rfl) rfl rfl ?_
      refine RL.ev (.move rfl) rfl rfl ?_
      refine RL.ev (.move rfl) rfl rfl ?_
      refine RL.ev (.indexS sl23 rfl rfl (idxK (by omega)) (hl.is (i := 0) (by simp only [List.length_map]; omega))) rfl rfl ?_
      refine RL.ev (.fieldA fo42_1 rfl) rfl rfl ?_
      refine RL.ev (.load1 sh2 rfl ((hl.sub S1).cell (enc := It.cells) hy1 rfl)) rfl rfl ?_
      refine RL.ev (.as (v' := .bool true) (.bin rfl rfl rfl) (congrArg Value.bool (decide_eq_true (hxv.symm)))) rfl rfl ?_
      refine RL.ev (.pick_t rfl rfl) rfl rfl ?_
      refine RL.ev (.assign rfl) rfl rfl ?_
      refine RL.nil (RC.back ?_)
      refine RC.done (rs := [.tmp 6]) (vs := [_]) rfl rfl ⟨rfl, trivial⟩ ?_
      -- end 2
      exact ⟨rfl, S⟩
    ·
      obtain ⟨hn0, hhas⟩ := hn.resolve_right (fun h => by omega)
      obtain ⟨_, hv0, he⟩ := hy.resolve_right (fun h => by obtain ⟨⟨x, hx, hxk, _⟩, _⟩ := h; exact hasK_out hhas x hx hxk)
      refine RC.skip (RC.back ?_)
      refine RC.seq ?_
      refine RC.region rfl ?_
      refine RL.ev (.move rfl) rfl rfl ?_
      refine RL.ev (.as (v' := .bool true) (.bin rfl rfl rfl) (congrArg Value.bool (decide_eq_true (he)))) rfl rfl ?_
      refine RL.ev (.move rfl) rfl rfl ?_
      refine RL.ev (.move rfl) rfl rfl ?_
      refine RL.ev (.as (v' := .bool true) (.bin rfl rfl rfl) (congrArg Value.bool (decide_eq_true (hv0)))) rfl rfl ?_
      refine RL.ev (.pick_t rfl rfl) rfl rfl ?_
      refine RL.ev (.assign rfl) rfl rfl ?_
      refine RL.nil (RC.back ?_)
      refine RC.done (rs := [.tmp 6]) (vs := [_]) rfl rfl ⟨rfl, trivial⟩ ?_
      -- end 3
      exact ⟨rfl, S⟩
end Go.Proofs.Ytekdjjppdijkmaa
