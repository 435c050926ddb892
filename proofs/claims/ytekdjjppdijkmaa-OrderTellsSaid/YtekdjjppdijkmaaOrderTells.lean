/-
  The statement OrderTells.
-/
import Derived.Test.YtekdjjppdijkmaaOrderTellP
set_option linter.unusedVariables false
set_option linter.unusedSimpArgs false
namespace Go.Proofs.Ytekdjjppdijkmaa
open Go Go.XL

theorem idxI {α β : Type} {l : List α} {f : α → β} {p : Int} (h : 0 ≤ p ∧ p < l.length) : 0 ≤ p ∧ p < ((l.map f).length : Nat) := by rw [List.length_map]; exact h
theorem ceil_in {R : List It} {key e : Int} {x y : It} (h : (e = 0 ∧ ∃ y : It, R[cntLt R key]? = some y ∧ x = y ∧ key ≤ y.k) ∨ (e = 3 ∧ x = it0 ∧ cntLt R key = R.length)) (hy : R[cntLt R key]? = some y) : x = y ∧ e = 0 := by
  rcases h with ⟨h0, z, h1, rfl, h2⟩ | ⟨h1, _, h2⟩
  · rw [h1] at hy; cases hy; exact ⟨rfl, h0⟩
  · have := lt_of_get hy; omega
theorem ceil_out {R : List It} {key e : Int} {x : It} (h : (e = 0 ∧ ∃ y : It, R[cntLt R key]? = some y ∧ x = y ∧ key ≤ y.k) ∨ (e = 3 ∧ x = it0 ∧ cntLt R key = R.length)) (hn : ¬ cntLt R key < R.length) : x = it0 ∧ e = 3 := by
  rcases h with ⟨h0, z, h1, rfl, h2⟩ | ⟨h1, h2, _⟩
  · exact absurd (lt_of_get h1) hn
  · exact ⟨h2, h1⟩
theorem floor_in {R : List It} {key e : Int} {x : It} (h : (e = 0 ∧ ∃ (i : Nat) (y : It), R[i]? = some y ∧ x = y ∧ y.k ≤ key ∧ cntLe R key = i + 1) ∨ (e = 3 ∧ x = it0 ∧ cntLe R key = 0)) (hn : ¬ cntLe R key = 0) : ∃ i : Nat, R[i]? = some x ∧ cntLe R key = i + 1 ∧ e = 0 := by
  rcases h with ⟨h0, i, y, h1, rfl, h2, h3⟩ | ⟨_, _, h2⟩
  · exact ⟨i, h1, h3, h0⟩
  · exact absurd h2 hn
theorem floor_out {R : List It} {key e : Int} {x : It} (h : (e = 0 ∧ ∃ (i : Nat) (y : It), R[i]? = some y ∧ x = y ∧ y.k ≤ key ∧ cntLe R key = i + 1) ∨ (e = 3 ∧ x = it0 ∧ cntLe R key = 0)) (hn : cntLe R key = 0) : x = it0 ∧ e = 3 := by
  rcases h with ⟨h0, i, y, h1, rfl, h2, h3⟩ | ⟨h1, h2, _⟩
  · omega
  · exact ⟨h2, h1⟩
set_option maxHeartbeats 4000000 in
theorem law_OrderTells (w : World) (A0 : Ar) (na fa : Option Addr) (nc fc : Nat) (hnc : A0.nodes.length ≤ nc) (hfc : A0.free.length ≤ fc) (hA0 : ArR w na fa A0) (r : Int) (wr : (Lit.int .u64 r).wf = true) (key : Int) (wk : (Lit.int .i64 key).wf = true) (p : Int) (wp : (Lit.int .i64 p).wf = true) :
    FC Try.prog 4 [arV na fa nc fc A0, .int .u64 r, .int .i64 key, .int .i64 p] w (Val (.bool true) w) := by
  have hr := wfU wr
  have hk := wfI wk
  have hpI := wfI wp
  have hp : -9223372036854775808 ≤ p ∧ p ≤ 9223372036854775807 := hpI
  have hA := few60_R hA0
  have hn60 : (few60 A0).nodes.length ≤ 60 := by simp only [few60, List.length_take]; omega
  obtain ⟨A, hAe⟩ : ∃ A, few60 A0 = A := ⟨_, rfl⟩
  rw [hAe] at hA hn60
  have hrow := isMap_row (A := A) (r := r)
  obtain ⟨L, hL⟩ : ∃ L, rowF A 202 r 201 = L := ⟨_, rfl⟩
  rw [hL] at hrow
  refine FC.intro Try.func4 rfl Try.ntmps4 rfl ?_
  have S := Sub.refl w
  refine RC.seq ?_
  refine RC.region rfl ?_
  refine RL.box rfl rfl rfl (fun b_4 w_4 e_4 z_4 hb_4 s_4 => ?_)
  have ge_4 := S.le e_4
  have S := S.trans s_4
  have hb_4 : Has w_4 b_4 ([.slice na A0.nodes.length nc, .slice fa A0.free.length fc]) _ := hb_4
  refine RL.ev (.assign rfl) rfl rfl ?_
  refine RL.nil (RC.back ?_)
  refine RC.seq ?_
  refine RC.region rfl ?_
  refine RL.ev (.loadR ([.slice na A0.nodes.length nc, .slice fa A0.free.length fc]) sh28 rfl hb_4.row rfl) rfl rfl ?_
  refine RL.call rfl ok19 ((hAe ▸ c_few7 A0 na fa nc fc hnc hfc w_4)) rfl rfl ?_
  rintro _ w1 ⟨rfl, s2⟩
  have S := S.trans s2
  have hb_4 := hb_4.sub s2
  refine RL.store sh28 rfl rfl rfl hb_4 (by exact Nat.le_of_ble_eq_true rfl) (by rfl) rfl (fun w3 z3 hb_4 a3 => ?_)
  have S := S.upd a3 ge_4
  have hb_4 : Has w3 b_4 ([.slice na A.nodes.length nc, .slice fa A.free.length fc]) _ := hb_4.now (by kernel_rfl)
  refine RL.nil (RC.back ?_)
  refine RC.seq ?_
  refine RC.region rfl ?_
  refine RL.ev (.loadR ([.slice na A.nodes.length nc, .slice fa A.free.length fc]) sh28 rfl hb_4.row rfl) rfl rfl ?_
  refine RL.ev (.move rfl) rfl rfl ?_
  refine RL.call rfl ok16 (c_oSize A na fa nc fc r hr w3 (hA.sub S)) rfl rfl ?_
  rintro _ w4 ⟨s5, n1, e1, rfl, hn1, hy1⟩
  have S := S.trans s5
  have hb_4 := hb_4.sub s5
  refine RL.ev (.move rfl) rfl rfl ?_
  refine RL.ev (.extract rfl rfl) rfl rfl ?_
  refine RL.ev (.extract rfl rfl) rfl rfl ?_
  refine RL.ev (.assign rfl) rfl rfl ?_
  refine RL.ev (.assign rfl) rfl rfl ?_
  refine RL.nil (RC.back ?_)
  refine RC.seq ?_
  refine RC.region rfl ?_
  refine RL.ev (.loadR ([.slice na A.nodes.length nc, .slice fa A.free.length fc]) sh28 rfl hb_4.row rfl) rfl rfl ?_
  refine RL.ev (.move rfl) rfl rfl ?_
  refine RL.ev (.move rfl) rfl rfl ?_
  refine RL.call rfl ok20 (c_oAt A na fa nc fc r hr p hpI w4 (hA.sub S)) rfl rfl ?_
  rintro _ w6 ⟨s7, x2, e2, rfl, hn2, hy2⟩
  have S := S.trans s7
  have hb_4 := hb_4.sub s7
  refine RL.ev (.move rfl) rfl rfl ?_
  refine RL.ev (.extract rfl rfl) rfl rfl ?_
  refine RL.ev (.extract rfl rfl) rfl rfl ?_
  refine RL.alloc ze42 rfl rfl (fun b_11 w_11 e_11 z_11 hb_11 s_11 => ?_)
  have ge_11 := S.le e_11
  have n_4__11 := hb_4.ne e_11
  have S := S.trans s_11
  have hb_4 := hb_4.sub s_11
  refine RL.store sh42 rfl rfl rfl hb_11 (by exact Nat.le_of_ble_eq_true rfl) (by rfl) rfl (fun w8 z8 hb_11 a8 => ?_)
  have S := S.upd a8 ge_11
  have hb_4 := hb_4.upd a8 n_4__11
  have hb_11 : Has w8 b_11 (x2.cells) _ := hb_11.now (by kernel_rfl)
  refine RL.ev (.assign rfl) rfl rfl ?_
  refine RL.nil (RC.back ?_)
  refine RC.seq ?_
  refine RC.region rfl ?_
  refine RL.ev (.loadR ([.slice na A.nodes.length nc, .slice fa A.free.length fc]) sh28 rfl hb_4.row rfl) rfl rfl ?_
  refine RL.ev (.move rfl) rfl rfl ?_
  refine RL.ev (.move rfl) rfl rfl ?_
  refine RL.call rfl ok15 (c_oRank A na fa nc fc r hr key w8 (hA.sub S)) rfl rfl ?_
  rintro _ w9 ⟨s10, n3, e3, rfl, hn3, hy3⟩
  have S := S.trans s10
  have hb_4 := hb_4.sub s10
  have hb_11 := hb_11.sub s10
  refine RL.ev (.move rfl) rfl rfl ?_
  refine RL.ev (.extract rfl rfl) rfl rfl ?_
  refine RL.ev (.extract rfl rfl) rfl rfl ?_
  refine RL.ev (.assign rfl) rfl rfl ?_
  refine RL.ev (.assign rfl) rfl rfl ?_
  refine RL.nil (RC.back ?_)
  refine RC.seq ?_
  refine RC.region rfl ?_
  refine RL.ev (.loadR ([.slice na A.nodes.length nc, .slice fa A.free.length fc]) sh28 rfl hb_4.row rfl) rfl rfl ?_
  refine RL.ev (.move rfl) rfl rfl ?_
  refine RL.ev (.move rfl) rfl rfl ?_
  refine RL.call rfl ok21 (c_oFloor A na fa nc fc r hr key w9 (hA.sub S)) rfl rfl ?_
  rintro _ w11 ⟨s12, x4, e4, rfl, hn4, hy4⟩
  have S := S.trans s12
  have hb_4 := hb_4.sub s12
  have hb_11 := hb_11.sub s12
  refine RL.ev (.move rfl) rfl rfl ?_
  refine RL.ev (.extract rfl rfl) rfl rfl ?_
  refine RL.ev (.extract rfl rfl) rfl rfl ?_
  refine RL.alloc ze42 rfl rfl (fun b_15 w_15 e_15 z_15 hb_15 s_15 => ?_)
  have ge_15 := S.le e_15
  have n_4__15 := hb_4.ne e_15
  have n_11__15 := hb_11.ne e_15
  have S := S.trans s_15
  have hb_4 := hb_4.sub s_15
  have hb_11 := hb_11.sub s_15
  refine RL.store sh42 rfl rfl rfl hb_15 (by exact Nat.le_of_ble_eq_true rfl) (by rfl) rfl (fun w13 z13 hb_15 a13 => ?_)
  have S := S.upd a13 ge_15
  have hb_4 := hb_4.upd a13 n_4__15
  have hb_11 := hb_11.upd a13 n_11__15
  have hb_15 : Has w13 b_15 (x4.cells) _ := hb_15.now (by kernel_rfl)
  refine RL.ev (.assign rfl) rfl rfl ?_
  refine RL.nil (RC.back ?_)
  refine RC.seq ?_
  refine RC.region rfl ?_
  refine RL.ev (.loadR ([.slice na A.nodes.length nc, .slice fa A.free.length fc]) sh28 rfl hb_4.row rfl) rfl rfl ?_
  refine RL.ev (.move rfl) rfl rfl ?_
  refine RL.ev (.move rfl) rfl rfl ?_
  refine RL.call rfl ok22 (c_oCeil A na fa nc fc r hr key w13 (hA.sub S)) rfl rfl ?_
  rintro _ w14 ⟨s15, x5, e5, rfl, hn5, hy5⟩
  have S := S.trans s15
  have hb_4 := hb_4.sub s15
  have hb_11 := hb_11.sub s15
  have hb_15 := hb_15.sub s15
  refine RL.ev (.move rfl) rfl rfl ?_
  refine RL.ev (.extract rfl rfl) rfl rfl ?_
  refine RL.ev (.extract rfl rfl) rfl rfl ?_
  refine RL.alloc ze42 rfl rfl (fun b_17 w_17 e_17 z_17 hb_17 s_17 => ?_)
  have ge_17 := S.le e_17
  have n_4__17 := hb_4.ne e_17
  have n_11__17 := hb_11.ne e_17
  have n_15__17 := hb_15.ne e_17
  have S := S.trans s_17
  have hb_4 := hb_4.sub s_17
  have hb_11 := hb_11.sub s_17
  have hb_15 := hb_15.sub s_17
  refine RL.store sh42 rfl rfl rfl hb_17 (by exact Nat.le_of_ble_eq_true rfl) (by rfl) rfl (fun w16 z16 hb_17 a16 => ?_)
  have S := S.upd a16 ge_17
  have hb_4 := hb_4.upd a16 n_4__17
  have hb_11 := hb_11.upd a16 n_11__17
  have hb_15 := hb_15.upd a16 n_15__17
  have hb_17 : Has w16 b_17 (x5.cells) _ := hb_17.now (by kernel_rfl)
  refine RL.ev (.assign rfl) rfl rfl ?_
  refine RL.nil (RC.back ?_)
  refine RC.seq ?_
  refine RC.region rfl ?_
  refine RL.ev (.buildS ze42 pl42 rfl rfl) rfl rfl ?_
  refine RL.alloc ze42 rfl rfl (fun b_19 w_19 e_19 z_19 hb_19 s_19 => ?_)
  have ge_19 := S.le e_19
  have n_4__19 := hb_4.ne e_19
  have n_11__19 := hb_11.ne e_19
  have n_15__19 := hb_15.ne e_19
  have n_17__19 := hb_17.ne e_19
  have S := S.trans s_19
  have hb_4 := hb_4.sub s_19
  have hb_11 := hb_11.sub s_19
  have hb_15 := hb_15.sub s_19
  have hb_17 := hb_17.sub s_19
  refine RL.store sh42 rfl rfl rfl hb_19 (by exact Nat.le_of_ble_eq_true rfl) (by rfl) rfl (fun w17 z17 hb_19 a17 => ?_)
  have S := S.upd a17 ge_19
  have hb_4 := hb_4.upd a17 n_4__19
  have hb_11 := hb_11.upd a17 n_11__19
  have hb_15 := hb_15.upd a17 n_15__19
  have hb_17 := hb_17.upd a17 n_17__19
  have hb_19 : Has w17 b_19 (it0.cells) _ := hb_19.now (by kernel_rfl)
  refine RL.nil (RC.back ?_)
  refine RC.seq ?_
  refine RC.seq ?_
  refine RC.region rfl ?_
  refine RL.ev (.loadR ([.slice na A.nodes.length nc, .slice fa A.free.length fc]) sh28 rfl hb_4.row rfl) rfl rfl ?_
  refine RL.ev (.move rfl) rfl rfl ?_
  refine RL.call rfl ok23 (c_refRight6 A na fa nc fc (by omega) r hr w17 (hA.sub S)) rfl rfl ?_
  rintro _ w18 ⟨rfl, s19⟩
  have S := S.trans s19
  have hb_4 := hb_4.sub s19
  have hb_11 := hb_11.sub s19
  have hb_15 := hb_15.sub s19
  have hb_17 := hb_17.sub s19
  have hb_19 := hb_19.sub s19
  refine RL.ev (.not rfl) rfl rfl ?_
  refine RL.nil (RC.back ?_)
  refine RC.cond rfl (fun h20 => ?_) (fun h20 => ?_)
  ·
    have hno : ¬ isMap A r := (fun h => by have h2 := h20; rw [isMapB_yes h] at h2; cases h2)
    obtain ⟨q1, q2⟩ := hn1 hno
    obtain ⟨q3, q4⟩ := hn2 hno
    obtain ⟨q5, q6⟩ := hn3 hno
    obtain ⟨q7, q8⟩ := hn4 hno
    obtain ⟨q9, q10⟩ := hn5 hno
    refine RC.seq ?_
    refine RC.region rfl ?_
    refine RL.ev (.assign rfl) rfl rfl ?_
    refine RL.nil (RC.back ?_)
    refine RC.seq ?_
    refine RC.region rfl ?_
    refine RL.call rfl ok18 (c_alive7 w18) rfl rfl ?_
    rintro _ w21 ⟨rfl, s22⟩
    have S := S.trans s22
    have hb_4 := hb_4.sub s22
    have hb_11 := hb_11.sub s22
    have hb_15 := hb_15.sub s22
    have hb_17 := hb_17.sub s22
    have hb_19 := hb_19.sub s22
    refine RL.ev (.move rfl) rfl rfl ?_
    refine RL.ev (.move rfl) rfl rfl ?_
    refine RL.ev (.move rfl) rfl rfl ?_
    refine RL.ev (.as (v' := .bool true) (.bin rfl rfl rfl) (congrArg Value.bool (decide_eq_true (q2)))) rfl rfl ?_
    refine RL.ev (.pick_t rfl rfl) rfl rfl ?_
    refine RL.ev (.move rfl) rfl rfl ?_
    refine RL.ev (.move rfl) rfl rfl ?_
    refine RL.ev (.move rfl) rfl rfl ?_
    refine RL.ev (.as (v' := .bool true) (.bin rfl rfl rfl) (congrArg Value.bool (decide_eq_true (q4)))) rfl rfl ?_
    refine RL.ev (.pick_t rfl rfl) rfl rfl ?_
    refine RL.ev (.move rfl) rfl rfl ?_
    refine RL.ev (.move rfl) rfl rfl ?_
    refine RL.ev (.move rfl) rfl rfl ?_
    refine RL.ev (.as (v' := .bool true) (.bin rfl rfl rfl) (congrArg Value.bool (decide_eq_true (q6)))) rfl rfl ?_
    refine RL.ev (.pick_t rfl rfl) rfl rfl ?_
    refine RL.ev (.move rfl) rfl rfl ?_
    refine RL.ev (.move rfl) rfl rfl ?_
    refine RL.ev (.move rfl) rfl rfl ?_
    refine RL.ev (.as (v' := .bool true) (.bin rfl rfl rfl) (congrArg Value.bool (decide_eq_true (q8)))) rfl rfl ?_
    refine RL.ev (.pick_t rfl rfl) rfl rfl ?_
    refine RL.ev (.move rfl) rfl rfl ?_
    refine RL.ev (.move rfl) rfl rfl ?_
    refine RL.ev (.move rfl) rfl rfl ?_
    refine RL.ev (.as (v' := .bool true) (.bin rfl rfl rfl) (congrArg Value.bool (decide_eq_true (q10)))) rfl rfl ?_
    refine RL.ev (.pick_t rfl rfl) rfl rfl ?_
    refine RL.ev (.move rfl) rfl rfl ?_
    refine RL.ev (.move rfl) rfl rfl ?_
    refine RL.ev (.as (v' := .bool true) (.bin rfl rfl rfl) (congrArg Value.bool (decide_eq_true (q1)))) rfl rfl ?_
    refine RL.ev (.pick_t rfl rfl) rfl rfl ?_
    refine RL.ev (.move rfl) rfl rfl ?_
    refine RL.ev (.move rfl) rfl rfl ?_
    refine RL.ev (.as (v' := .bool true) (.bin rfl rfl rfl) (congrArg Value.bool (decide_eq_true (q5)))) rfl rfl ?_
    refine RL.ev (.pick_t rfl rfl) rfl rfl ?_
    refine RL.ev (.move rfl) rfl rfl ?_
    refine RL.ev (.loadR (x2.cells) sh42 rfl hb_11.row rfl) rfl rfl ?_
    refine RL.ev (.loadR (it0.cells) sh42 rfl hb_19.row rfl) rfl rfl ?_
    refine RL.ev (.as (v' := .bool true) (.eqS (xs := x2.cells) (ys := it0.cells) fk42 eg42 sh42 rfl rfl rfl rfl rfl) (congrArg Value.bool (by rw [q3]; exact eqL_it _))) rfl rfl ?_
    refine RL.ev (.pick_t rfl rfl) rfl rfl ?_
    refine RL.ev (.move rfl) rfl rfl ?_
    refine RL.ev (.loadR (x4.cells) sh42 rfl hb_15.row rfl) rfl rfl ?_
    refine RL.ev (.loadR (it0.cells) sh42 rfl hb_19.row rfl) rfl rfl ?_
    refine RL.ev (.as (v' := .bool true) (.eqS (xs := x4.cells) (ys := it0.cells) fk42 eg42 sh42 rfl rfl rfl rfl rfl) (congrArg Value.bool (by rw [q7]; exact eqL_it _))) rfl rfl ?_
    refine RL.ev (.pick_t rfl rfl) rfl rfl ?_
    refine RL.ev (.move rfl) rfl rfl ?_
    refine RL.ev (.loadR (x5.cells) sh42 rfl hb_17.row rfl) rfl rfl ?_
    refine RL.ev (.loadR (it0.cells) sh42 rfl hb_19.row rfl) rfl rfl ?_
    refine RL.ev (.as (v' := .bool true) (.eqS (xs := x5.cells) (ys := it0.cells) fk42 eg42 sh42 rfl rfl rfl rfl rfl) (congrArg Value.bool (by rw [q9]; exact eqL_it _))) rfl rfl ?_
    refine RL.ev (.pick_t rfl rfl) rfl rfl ?_
    refine RL.ev (.assign rfl) rfl rfl ?_
    refine RL.nil (RC.back ?_)
    refine RC.done (rs := [.tmp 8]) (vs := [_]) rfl rfl ⟨rfl, trivial⟩ ?_
    -- end 1
    exact ⟨rfl, S⟩
  ·
    have hmap : isMap A r := (isMapB_iff A r).1 (by simpa using h20)
    obtain ⟨hT, hL200⟩ := hrow hmap
    have hLs := hT.srt
    obtain ⟨q1, q2⟩ := hy1 L hmap hT
    obtain ⟨q3, q4⟩ := hy2 L hmap hT
    obtain ⟨q5, q6⟩ := hy3 L hmap hT
    obtain ⟨q7, q8⟩ := hy4 L hmap hT
    obtain ⟨q9, q10⟩ := hy5 L hmap hT
    have hfc := floor_cases hLs key
    rw [← q7, ← q8] at hfc
    have hcc := ceil_cases hLs key
    rw [← q9, ← q10] at hcc
    have q5 : n3 = (cntLt L key : Int) := q5
    have hlk := cntLt_le L key
    refine RC.skip (RC.back ?_)
    refine RC.seq ?_
    refine RC.region rfl ?_
    refine RL.ev (.loadR ([.slice na A.nodes.length nc, .slice fa A.free.length fc]) sh28 rfl hb_4.row rfl) rfl rfl ?_
    refine RL.ev (.move rfl) rfl rfl ?_
    refine RL.call rfl ok24 (c_refRow A na fa nc fc (by omega) 202 r 201 w18 hr (by decide) (by decide) (by decide) (hA.sub S)) rfl rfl ?_
    rintro vr w23 ⟨ra, rc, hvr, o1, s24⟩
    have S := S.trans s24
    have hb_4 := hb_4.sub s24
    have hb_11 := hb_11.sub s24
    have hb_15 := hb_15.sub s24
    have hb_17 := hb_17.sub s24
    have hb_19 := hb_19.sub s24
    rw [hL] at hvr o1
    subst hvr
    obtain ⟨W1, S1, hl⟩ : ∃ W1, Sub W1 w23 ∧ Sl W1 ra 2 (L.map It.cells) := ⟨_, Sub.refl _, o1.sl.1⟩
    refine RL.ev (.assign rfl) rfl rfl ?_
    refine RL.nil (RC.back ?_)
    refine RC.seq ?_
    refine RC.region rfl ?_
    refine RL.ev (.move rfl) rfl rfl ?_
    refine RL.ev (.move rfl) rfl rfl ?_
    refine RL.call rfl ok25 (c_refBelow L ra rc _ (List.length_map _) key w23 (hl.sub S1) (by omega)) rfl rfl ?_
    rintro _ w25 ⟨ba, bc, rfl, _, s26⟩
    have S := S.trans s26
    have hb_4 := hb_4.sub s26
    have hb_11 := hb_11.sub s26
    have hb_15 := hb_15.sub s26
    have hb_17 := hb_17.sub s26
    have hb_19 := hb_19.sub s26
    have S1 := S1.trans s26
    refine RL.ev (.as (v' := .int .i64 (cntLt L key : Int)) (.len sl23 rfl) (by rw [List.length_map]; rfl)) rfl rfl ?_
    refine RL.ev (.assign rfl) rfl rfl ?_
    refine RL.nil (RC.back ?_)
    refine RC.cutx (α := Unit) (fun _ => [(2, .int .i64 key), (3, .int .i64 p), (11, .pointer (some ⟨b_11, 0, none⟩)), (12, .int .i64 e2), (15, .pointer (some ⟨b_15, 0, none⟩)), (16, .int .i64 e4), (17, .pointer (some ⟨b_17, 0, none⟩)), (18, .int .i64 e5), (19, .pointer (some ⟨b_19, 0, none⟩)), (21, .slice ra (L.map It.cells).length rc), (22, .int .i64 (cntLt L key : Int))]) (fun _ w27 => Has w27 b_11 x2.cells 42 ∧ Has w27 b_15 x4.cells 42 ∧ Has w27 b_17 x5.cells 42 ∧ Has w27 b_19 it0.cells 42 ∧ Sub W1 w27 ∧ Sub w w27) ?_ (fun _ w27 hJ => ?_)
    ·
      refine RC.seq ?_
      refine RC.region rfl ?_
      refine RL.ev (.move rfl) rfl rfl ?_
      refine RL.ev (.as (v' := .bool false) (.bin rfl rfl rfl) (congrArg Value.bool (decide_eq_false (fun h => h q2)))) rfl rfl ?_
      refine RL.ev (.move rfl) rfl rfl ?_
      refine RL.ev (.move rfl) rfl rfl ?_
      refine RL.ev (.as (v' := .bool false) (.bin rfl rfl rfl) (congrArg Value.bool (decide_eq_false (fun h => h q6)))) rfl rfl ?_
      refine RL.ev (.pick_f rfl rfl) rfl rfl ?_
      refine RL.ev (.move rfl) rfl rfl ?_
      refine RL.ev (.move rfl) rfl rfl ?_
      refine RL.ev (.move rfl) rfl rfl ?_
      refine RL.ev (.as (v' := .int .i64 (L.length : Int)) (.len sl23 rfl) (by rw [List.length_map])) rfl rfl ?_
      refine RL.ev (.as (v' := .bool false) (.bin rfl rfl rfl) (congrArg Value.bool (decide_eq_false (fun h => h q1)))) rfl rfl ?_
      refine RL.ev (.pick_f rfl rfl) rfl rfl ?_
      refine RL.ev (.move rfl) rfl rfl ?_
      refine RL.ev (.move rfl) rfl rfl ?_
      refine RL.ev (.move rfl) rfl rfl ?_
      refine RL.ev (.as (v' := .bool false) (.bin rfl rfl rfl) (congrArg Value.bool (decide_eq_false (fun h => h q5)))) rfl rfl ?_
      refine RL.ev (.pick_f rfl rfl) rfl rfl ?_
      refine RL.ev (.move rfl) rfl rfl ?_
      refine RL.call rfl ok18 (c_alive7 w25) rfl rfl ?_
      rintro _ w28 ⟨rfl, s29⟩
      have S := S.trans s29
      have hb_4 := hb_4.sub s29
      have hb_11 := hb_11.sub s29
      have hb_15 := hb_15.sub s29
      have hb_17 := hb_17.sub s29
      have hb_19 := hb_19.sub s29
      have S1 := S1.trans s29
      refine RL.ev (.not rfl) rfl rfl ?_
      refine RL.ev (.pick_f rfl rfl) rfl rfl ?_
      refine RL.nil (RC.back ?_)
      refine RC.cond_f rfl ?_
      exact RC.skip (fun a ka => ⟨(), ⟨hb_11, hb_15, hb_17, hb_19, S1, S⟩, ka.keep (keep_of (by repeat (first | exact trivial | refine And.intro rfl ?_)))⟩)
    obtain ⟨hb_11, hb_15, hb_17, hb_19, S1, S⟩ := hJ
    refine RC.cutx (α := Unit) (fun _ => [(2, .int .i64 key), (3, .int .i64 p), (15, .pointer (some ⟨b_15, 0, none⟩)), (16, .int .i64 e4), (17, .pointer (some ⟨b_17, 0, none⟩)), (18, .int .i64 e5), (19, .pointer (some ⟨b_19, 0, none⟩)), (21, .slice ra (L.map It.cells).length rc), (22, .int .i64 (cntLt L key : Int))]) (fun _ w30 => Has w30 b_15 x4.cells 42 ∧ Has w30 b_17 x5.cells 42 ∧ Has w30 b_19 it0.cells 42 ∧ Sub W1 w30 ∧ Sub w w30) ?_ (fun _ w30 hJ => ?_)
    ·
      refine RC.seq ?_
      refine RC.region rfl ?_
      refine RL.ev (.move rfl) rfl rfl ?_
      refine RL.ev (.bin rfl rfl rfl) rfl rfl ?_
      refine RL.ev (.move rfl) rfl rfl ?_
      refine RL.split 144 rfl (fun h31 => ?_) (fun h31 => ?_)
      ·
        have hout := h31
        refine RL.off rfl rfl ?_
        refine RL.off rfl rfl ?_
        refine RL.off rfl rfl ?_
        refine RL.off rfl rfl ?_
        refine RL.ev (.pick_t rfl rfl) rfl rfl ?_
        refine RL.nil (RC.back ?_)
        refine RC.cond_t rfl ?_
        refine RC.seq ?_
        refine RC.region rfl ?_
        refine RL.ev (.move rfl) rfl rfl ?_
        refine RL.ev (.as (v' := .bool false) (.bin rfl rfl rfl) (congrArg Value.bool (decide_eq_false (fun h => h (q4 (by omega)).2)))) rfl rfl ?_
        refine RL.ev (.move rfl) rfl rfl ?_
        refine RL.ev (.loadR (x2.cells) sh42 rfl hb_11.row rfl) rfl rfl ?_
        refine RL.ev (.loadR (it0.cells) sh42 rfl hb_19.row rfl) rfl rfl ?_
        refine RL.ev (.as (v' := .bool false) (.neS (xs := x2.cells) (ys := it0.cells) fk42 eg42 sh42 rfl rfl rfl rfl rfl) (congrArg Value.bool (by rw [(q4 (by omega)).1, eqL_it]; rfl))) rfl rfl ?_
        refine RL.ev (.pick_f rfl rfl) rfl rfl ?_
        refine RL.nil (RC.back ?_)
        refine RC.cond_f rfl ?_
        exact RC.skip (fun a ka => ⟨(), ⟨hb_15, hb_17, hb_19, S1, S⟩, ka.keep (keep_of (by repeat (first | exact trivial | refine And.intro rfl ?_)))⟩)
      ·
        refine RL.ev (.move rfl) rfl rfl ?_
        refine RL.ev (.move rfl) rfl rfl ?_
        refine RL.ev (.as (v' := .int .i64 (L.length : Int)) (.len sl23 rfl) (by rw [List.length_map])) rfl rfl ?_
        refine RL.ev (.bin rfl rfl rfl) rfl rfl ?_
        refine RL.ev (.pick_f rfl rfl) rfl rfl ?_
        refine RL.nil (RC.back ?_)
        refine RC.cond_dec rfl (fun h32 => ?_) (fun h32 => ?_)
        ·
          have hout := h32
          refine RC.seq ?_
          refine RC.region rfl ?_
          refine RL.ev (.move rfl) rfl rfl ?_
          refine RL.ev (.as (v' := .bool false) (.bin rfl rfl rfl) (congrArg Value.bool (decide_eq_false (fun h => h (q4 (by omega)).2)))) rfl rfl ?_
          refine RL.ev (.move rfl) rfl rfl ?_
          refine RL.ev (.loadR (x2.cells) sh42 rfl hb_11.row rfl) rfl rfl ?_
          refine RL.ev (.loadR (it0.cells) sh42 rfl hb_19.row rfl) rfl rfl ?_
          refine RL.ev (.as (v' := .bool false) (.neS (xs := x2.cells) (ys := it0.cells) fk42 eg42 sh42 rfl rfl rfl rfl rfl) (congrArg Value.bool (by rw [(q4 (by omega)).1, eqL_it]; rfl))) rfl rfl ?_
          refine RL.ev (.pick_f rfl rfl) rfl rfl ?_
          refine RL.nil (RC.back ?_)
          refine RC.cond_f rfl ?_
          exact RC.skip (fun a ka => ⟨(), ⟨hb_15, hb_17, hb_19, S1, S⟩, ka.keep (keep_of (by repeat (first | exact trivial | refine And.intro rfl ?_)))⟩)
        ·
          have hin : 0 ≤ p ∧ p < L.length := (by omega)
          obtain ⟨hx2, hz2⟩ := q3 hin
          refine RC.seq ?_
          refine RC.draw rfl mxo (by kernel_rfl) ?_
          refine RQ.ev (.move rfl) rfl rfl ?_
          refine RQ.ev (.as (v' := .bool false) (.bin rfl rfl rfl) (congrArg Value.bool (decide_eq_false (fun h => h hz2)))) rfl rfl ?_
          refine RQ.ev (.move rfl) rfl rfl ?_
          refine RQ.ev (.loadR (x2.cells) sh42 rfl hb_11.row rfl) rfl rfl ?_
          refine RQ.ev (.move rfl) rfl rfl ?_
          refine RQ.ev (.move rfl) rfl rfl ?_
          refine RQ.ev (.indexS sl23 rfl rfl (idxI hin) (hl.is (i := 0) (by simp only [List.length_map]; omega))) rfl rfl ?_
          refine RQ.ev (.loadR (x2.cells) sh42 rfl ((hl.sub S1).rowAt (enc := It.cells) hx2) rfl) rfl rfl ?_
          refine RQ.ev (.as (v' := .bool false) (.neS (xs := x2.cells) (ys := x2.cells) fk42 eg42 sh42 rfl rfl rfl rfl rfl) (congrArg Value.bool (by rw [eqL_it]; rfl))) rfl rfl ?_
          refine RQ.ev (.pick_f rfl rfl) rfl rfl ?_
          refine RQ.nil (fun w33 s34 => RC.back ?_)
          have S := S.trans s34
          have S1 := S1.trans s34
          have hb_11 := hb_11.sub s34
          have hb_15 := hb_15.sub s34
          have hb_17 := hb_17.sub s34
          have hb_19 := hb_19.sub s34
          refine RC.cond_f rfl ?_
          exact RC.skip (fun a ka => ⟨(), ⟨hb_15, hb_17, hb_19, S1, S⟩, ka.keep (keep_of (by repeat (first | exact trivial | refine And.intro rfl ?_)))⟩)
    obtain ⟨hb_15, hb_17, hb_19, S1, S⟩ := hJ
    refine RC.cutx (α := Unit) (fun _ => [(2, .int .i64 key), (3, .int .i64 p), (15, .pointer (some ⟨b_15, 0, none⟩)), (16, .int .i64 e4), (19, .pointer (some ⟨b_19, 0, none⟩)), (21, .slice ra (L.map It.cells).length rc), (22, .int .i64 (cntLt L key : Int))]) (fun _ w35 => Has w35 b_15 x4.cells 42 ∧ Has w35 b_19 it0.cells 42 ∧ Sub W1 w35 ∧ Sub w w35) ?_ (fun _ w35 hJ => ?_)
    ·
      refine RC.seq ?_
      refine RC.region rfl ?_
      refine RL.ev (.move rfl) rfl rfl ?_
      refine RL.ev (.move rfl) rfl rfl ?_
      refine RL.ev (.as (v' := .int .i64 (L.length : Int)) (.len sl23 rfl) (by rw [List.length_map])) rfl rfl ?_
      refine RL.ev (.bin rfl rfl rfl) rfl rfl ?_
      refine RL.nil (RC.back ?_)
      refine RC.cond_dec rfl (fun h36 => ?_) (fun h36 => ?_)
      ·
        have hin5 := h36
        obtain ⟨y5, hy5q⟩ := getSome (l := L) (i := cntLt L key) (by omega)
        obtain ⟨hz5, he5⟩ : x5 = y5 ∧ e5 = 0 := ceil_in hcc hy5q
        refine RC.seq ?_
        refine RC.draw rfl mxo (by kernel_rfl) ?_
        refine RQ.ev (.move rfl) rfl rfl ?_
        refine RQ.ev (.as (v' := .bool false) (.bin rfl rfl rfl) (congrArg Value.bool (decide_eq_false (fun h => h he5)))) rfl rfl ?_
        refine RQ.ev (.move rfl) rfl rfl ?_
        refine RQ.ev (.loadR (x5.cells) sh42 rfl hb_17.row rfl) rfl rfl ?_
        refine RQ.ev (.move rfl) rfl rfl ?_
        refine RQ.ev (.move rfl) rfl rfl ?_
        refine RQ.ev (.indexS sl23 rfl rfl (idx_map (lt_of_get hy5q)) (hl.is (i := 0) (by simp only [List.length_map]; omega))) rfl rfl ?_
        refine RQ.ev (.loadR (x5.cells) sh42 rfl ((hl.sub S1).rowAt (enc := It.cells) (by rw [hz5]; exact hy5q)) rfl) rfl rfl ?_
        refine RQ.ev (.as (v' := .bool false) (.neS (xs := x5.cells) (ys := x5.cells) fk42 eg42 sh42 rfl rfl rfl rfl rfl) (congrArg Value.bool (by rw [eqL_it]; rfl))) rfl rfl ?_
        refine RQ.ev (.pick_f rfl rfl) rfl rfl ?_
        refine RQ.nil (fun w37 s38 => RC.back ?_)
        have S := S.trans s38
        have S1 := S1.trans s38
        have hb_15 := hb_15.sub s38
        have hb_17 := hb_17.sub s38
        have hb_19 := hb_19.sub s38
        refine RC.cond_f rfl ?_
        exact RC.skip (fun a ka => ⟨(), ⟨hb_15, hb_19, S1, S⟩, ka.keep (keep_of (by repeat (first | exact trivial | refine And.intro rfl ?_)))⟩)
      ·
        obtain ⟨hz5, he5⟩ : x5 = it0 ∧ e5 = 3 := ceil_out hcc (by omega)
        refine RC.seq ?_
        refine RC.region rfl ?_
        refine RL.ev (.move rfl) rfl rfl ?_
        refine RL.ev (.as (v' := .bool false) (.bin rfl rfl rfl) (congrArg Value.bool (decide_eq_false (fun h => h he5)))) rfl rfl ?_
        refine RL.ev (.move rfl) rfl rfl ?_
        refine RL.ev (.loadR (x5.cells) sh42 rfl hb_17.row rfl) rfl rfl ?_
        refine RL.ev (.loadR (it0.cells) sh42 rfl hb_19.row rfl) rfl rfl ?_
        refine RL.ev (.as (v' := .bool false) (.neS (xs := x5.cells) (ys := it0.cells) fk42 eg42 sh42 rfl rfl rfl rfl rfl) (congrArg Value.bool (by rw [hz5, eqL_it]; rfl))) rfl rfl ?_
        refine RL.ev (.pick_f rfl rfl) rfl rfl ?_
        refine RL.nil (RC.back ?_)
        refine RC.cond_f rfl ?_
        exact RC.skip (fun a ka => ⟨(), ⟨hb_15, hb_19, S1, S⟩, ka.keep (keep_of (by repeat (first | exact trivial | refine And.intro rfl ?_)))⟩)
    obtain ⟨hb_15, hb_19, S1, S⟩ := hJ
    refine RC.seq ?_
    refine RC.region rfl ?_
    refine RL.ev (.move rfl) rfl rfl ?_
    refine RL.ev (.assign rfl) rfl rfl ?_
    refine RL.nil (RC.back ?_)
    refine RC.cutx (α := Nat) (fun u_ => [(2, .int .i64 key), (3, .int .i64 p), (15, .pointer (some ⟨b_15, 0, none⟩)), (16, .int .i64 e4), (19, .pointer (some ⟨b_19, 0, none⟩)), (21, .slice ra (L.map It.cells).length rc), (22, .int .i64 (cntLt L key : Int)), (23, .int .i64 (u_ : Int))]) (fun u_ w39 => u_ = cntLe L key ∧ Has w39 b_15 x4.cells 42 ∧ Has w39 b_19 it0.cells 42 ∧ Sub W1 w39 ∧ Sub w w39) ?_ (fun u_ w39 hJ => ?_)
    ·
      refine RC.seq ?_
      refine RC.region rfl ?_
      refine RL.ev (.move rfl) rfl rfl ?_
      refine RL.ev (.move rfl) rfl rfl ?_
      refine RL.ev (.as (v' := .int .i64 (L.length : Int)) (.len sl23 rfl) (by rw [List.length_map])) rfl rfl ?_
      refine RL.ev (.bin rfl rfl rfl) rfl rfl ?_
      refine RL.ev (.move rfl) rfl rfl ?_
      refine RL.split 193 rfl (fun h40 => ?_) (fun h40 => ?_)
      ·
        obtain ⟨y6, hy6⟩ := getSome (l := L) (i := cntLt L key) (by omega)
        refine RL.ev (.move rfl) rfl rfl ?_
        refine RL.ev (.move rfl) rfl rfl ?_
        refine RL.ev (.indexS sl23 rfl rfl (idx_map (lt_of_get hy6)) (hl.is (i := 0) (by simp only [List.length_map]; omega))) rfl rfl ?_
        refine RL.ev (.fieldA fo42_0 rfl) rfl rfl ?_
        refine RL.ev (.load1 sh2 rfl ((hl.sub S1).cell (enc := It.cells) (j := 0) hy6 rfl)) rfl rfl ?_
        refine RL.ev (.move rfl) rfl rfl ?_
        refine RL.ev (.bin rfl rfl rfl) rfl rfl ?_
        refine RL.ev (.pick_t rfl rfl) rfl rfl ?_
        refine RL.nil (RC.back ?_)
        refine RC.cond_dec rfl (fun h41 => ?_) (fun h41 => ?_)
        ·
          have hup := (cntLe_lt hLs key).1 y6 hy6 h41
          refine RC.region rfl ?_
          refine RL.ev (.move rfl) rfl rfl ?_
          refine RL.ev (.as (.bin rfl rfl rfl) (wi64 (y := (cntLe L key : Int)) (by omega) (by omega))) rfl rfl ?_
          refine RL.ev (.assign rfl) rfl rfl ?_
          exact RL.nil (fun a ka => ⟨cntLe L key, ⟨rfl, hb_15, hb_19, S1, S⟩, ka.keep (keep_of (by repeat (first | exact trivial | refine And.intro rfl ?_)))⟩)
        ·
          have hup := (cntLe_lt hLs key).2 (fun y hy => by rw [hy6] at hy; cases hy; exact h41)
          exact RC.skip (fun a ka => ⟨cntLt L key, ⟨hup.symm, hb_15, hb_19, S1, S⟩, ka.keep (keep_of (by repeat (first | exact trivial | refine And.intro rfl ?_)))⟩)
      ·
        have hup := (cntLe_lt hLs key).2 (fun y hy => absurd (lt_of_get hy) (by omega))
        refine RL.off rfl rfl ?_
        refine RL.off rfl rfl ?_
        refine RL.off rfl rfl ?_
        refine RL.off rfl rfl ?_
        refine RL.off rfl rfl ?_
        refine RL.off rfl rfl ?_
        refine RL.off rfl rfl ?_
        refine RL.ev (.pick_f rfl rfl) rfl rfl ?_
        refine RL.nil (RC.back ?_)
        refine RC.cond_f rfl ?_
        exact RC.skip (fun a ka => ⟨cntLt L key, ⟨hup.symm, hb_15, hb_19, S1, S⟩, ka.keep (keep_of (by repeat (first | exact trivial | refine And.intro rfl ?_)))⟩)
    obtain ⟨hu, hb_15, hb_19, S1, S⟩ := hJ
    subst hu
    refine RC.seq ?_
    refine RC.seq ?_
    refine RC.region rfl ?_
    refine RL.ev (.move rfl) rfl rfl ?_
    refine RL.ev (.bin rfl rfl rfl) rfl rfl ?_
    refine RL.nil (RC.back ?_)
    refine RC.cond_dec rfl (fun h42 => ?_) (fun h42 => ?_)
    ·
      obtain ⟨hz4, he4⟩ : x4 = it0 ∧ e4 = 3 := floor_out hfc (by omega)
      refine RC.seq ?_
      refine RC.region rfl ?_
      refine RL.ev (.move rfl) rfl rfl ?_
      refine RL.ev (.as (v' := .bool true) (.bin rfl rfl rfl) (congrArg Value.bool (decide_eq_true (he4)))) rfl rfl ?_
      refine RL.ev (.move rfl) rfl rfl ?_
      refine RL.ev (.loadR (x4.cells) sh42 rfl hb_15.row rfl) rfl rfl ?_
      refine RL.ev (.loadR (it0.cells) sh42 rfl hb_19.row rfl) rfl rfl ?_
      refine RL.ev (.as (v' := .bool true) (.eqS (xs := x4.cells) (ys := it0.cells) fk42 eg42 sh42 rfl rfl rfl rfl rfl) (congrArg Value.bool (by rw [hz4]; exact eqL_it _))) rfl rfl ?_
      refine RL.ev (.pick_t rfl rfl) rfl rfl ?_
      refine RL.ev (.assign rfl) rfl rfl ?_
      refine RL.nil (RC.back ?_)
      refine RC.done (rs := [.tmp 8]) (vs := [_]) rfl rfl ⟨rfl, trivial⟩ ?_
      -- end 2
      exact ⟨rfl, S⟩
    ·
      obtain ⟨i4, hi4, hc4, he4⟩ : ∃ i, L[i]? = some x4 ∧ cntLe L key = i + 1 ∧ e4 = 0 := floor_in hfc (by omega)
      have hi4l := lt_of_get hi4
      refine RC.skip (RC.back ?_)
      refine RC.seq ?_
      refine RC.draw rfl mxo (by kernel_rfl) ?_
      refine RQ.ev (.move rfl) rfl rfl ?_
      refine RQ.ev (.as (v' := .bool true) (.bin rfl rfl rfl) (congrArg Value.bool (decide_eq_true (he4)))) rfl rfl ?_
      refine RQ.ev (.move rfl) rfl rfl ?_
      refine RQ.ev (.loadR (x4.cells) sh42 rfl hb_15.row rfl) rfl rfl ?_
      refine RQ.ev (.move rfl) rfl rfl ?_
      refine RQ.ev (.move rfl) rfl rfl ?_
      refine RQ.ev (.as (.bin rfl rfl rfl) (wi64 (y := (i4 : Int)) (by omega) (by omega))) rfl rfl ?_
      refine RQ.ev (.indexS sl23 rfl rfl (idx_map hi4l) (hl.is (i := 0) (by simp only [List.length_map]; omega))) rfl rfl ?_
      refine RQ.ev (.loadR (x4.cells) sh42 rfl ((hl.sub S1).rowAt (enc := It.cells) hi4) rfl) rfl rfl ?_
      refine RQ.ev (.as (v' := .bool true) (.eqS (xs := x4.cells) (ys := x4.cells) fk42 eg42 sh42 rfl rfl rfl rfl rfl) (congrArg Value.bool (eqL_it _))) rfl rfl ?_
      refine RQ.ev (.pick_t rfl rfl) rfl rfl ?_
      refine RQ.ev (.assign rfl) rfl rfl ?_
      refine RQ.nil (fun w43 s44 => RC.back ?_)
      have S := S.trans s44
      have S1 := S1.trans s44
      have hb_15 := hb_15.sub s44
      have hb_19 := hb_19.sub s44
      refine RC.done (rs := [.tmp 8]) (vs := [_]) rfl rfl ⟨rfl, trivial⟩ ?_
      -- end 3
      exact ⟨rfl, S⟩
end Go.Proofs.Ytekdjjppdijkmaa
