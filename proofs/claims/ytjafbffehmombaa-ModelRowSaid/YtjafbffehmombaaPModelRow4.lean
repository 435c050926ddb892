/-
  What the law ModelRow leans on, part 4.
-/
import Derived.Test.YtjafbffehmombaaPModelRow3
set_option linter.unusedVariables false
set_option linter.unusedSimpArgs false
namespace Go.Proofs.Ytjafbffehmombaa
open Go Go.XL
theorem tmod_small {a : Int} (n : Nat) (hn : 0 < n) (h : -9223372036854775808 ≤ a ∧ a ≤ 9223372036854775807) : -(n : Int) < a.tmod n ∧ a.tmod n < n := by
  have h1 := Int.tmod_lt_of_pos a (show (0 : Int) < n by omega)
  have h2 := Int.lt_tmod_of_pos a (show (0 : Int) < n by omega)
  omega
set_option maxHeartbeats 2000000 in
theorem law_ModelRow (w : World) (p : Ph) (m : Mo) (hc : m.map.length ≤ p.c1 ∧ m.tab.length ≤ p.c2 ∧ m.row.length ≤ p.c3 ∧ m.heap.length ≤ p.c4) (hR : MoR w p m) (v0 : Int) (wv : (Lit.int .i64 v0).wf = true) (first : Bool) :
    FC Try.prog 9 [moV p m, .int .i64 v0, .bool first] w (Val (.bool true) w) := by
  have hRf := fewM_R hR
  have hSf := fewM_S hc
  have hF0 := Ft.of_sub fun u s => hRf.sub s
  have hl5 := fewM_l m
  obtain ⟨f, hf⟩ : ∃ f, f = fewM m := ⟨_, rfl⟩
  rw [← hf] at hRf hSf hF0 hl5
  have hv0 := wfI wv
  obtain ⟨v, hv⟩ : ∃ v, v = v0.tmod 1000 := ⟨_, rfl⟩
  have hvb := tmod_small 1000 (by decide) hv0
  rw [show ((1000 : Nat) : Int) = 1000 from rfl, ← hv] at hvb
  obtain ⟨k1, hk1⟩ : ∃ k : Int, k = if first then 4 else 2 := ⟨_, rfl⟩
  obtain ⟨k2, hk2⟩ : ∃ k : Int, k = if first then 5 else 3 := ⟨_, rfl⟩
  have hok1 : okP ⟨3, k1, v, 0⟩ := by rw [hk1]; cases first <;> simp [okP, kindP, hasAP, hasBP] <;> omega
  have hok2 : okP ⟨3, k2, 0, 0⟩ := by rw [hk2]; cases first <;> simp [okP, kindP, hasAP, hasBP]
  have hok3 : okP ⟨3, 2, v, 0⟩ := by simp [okP, kindP, hasAP, hasBP]; omega
  refine FC.intro Try.func9 rfl Try.ntmps9 rfl ?_
  have S := Sub.refl w
  refine RC.seq ?_
  refine RC.region rfl ?_
  refine RL.box rfl rfl rfl (fun b_3 w_3 e_3 z_3 hb_3 s_3 => ?_)
  have ge_3 := S.le e_3
  have d_hF0_b_3 := hF0.neNew e_3
  have S := S.trans s_3
  have hF0 := hF0.sub s_3
  have hb_3 : Has w_3 b_3 ([.slice p.a1 m.map.length p.c1, .slice p.a2 m.tab.length p.c2, .slice p.a3 m.row.length p.c3, .slice p.a4 m.heap.length p.c4]) _ := hb_3
  refine RL.ev (.assign rfl) rfl rfl ?_
  refine RL.nil (RC.back ?_)
  refine RC.seq ?_
  refine RC.region rfl ?_
  refine RL.ev (.loadR ([.slice p.a1 m.map.length p.c1, .slice p.a2 m.tab.length p.c2, .slice p.a3 m.row.length p.c3, .slice p.a4 m.heap.length p.c4]) sh25 rfl hb_3.row rfl) rfl rfl ?_
  refine RL.call rfl ok12 (FC.asV (c_few14 p m hc w_3) (show _ = moV p f by rw [hf])) rfl rfl ?_
  rintro _ w1 ⟨rfl, s2⟩
  have S := S.trans s2
  have hF0 := hF0.sub s2
  have hb_3 := hb_3.sub s2
  refine RL.ev (.move rfl) rfl rfl ?_
  refine RL.ev (.as (v' := .int .i64 v) (.rem rfl rfl (by decide)) (by rw [hv])) rfl rfl ?_
  refine RL.store sh25 rfl rfl rfl hb_3 (by exact Nat.le_of_ble_eq_true rfl) (by rfl) rfl (fun w3 z3 hb_3 a3 => ?_)
  have S := S.upd a3 ge_3
  have hF0 := hF0.updD a3 d_hF0_b_3
  have hb_3 : Has w3 b_3 ([.slice p.a1 f.map.length p.c1, .slice p.a2 f.tab.length p.c2, .slice p.a3 f.row.length p.c3, .slice p.a4 f.heap.length p.c4]) _ := hb_3.now (by kernel_rfl)
  refine RL.ev (.assign rfl) rfl rfl ?_
  refine RL.nil (RC.back ?_)
  refine RC.seq ?_
  refine RC.seq ?_
  refine RC.region rfl ?_
  refine RL.ev (.loadR ([.slice p.a1 f.map.length p.c1, .slice p.a2 f.tab.length p.c2, .slice p.a3 f.row.length p.c3, .slice p.a4 f.heap.length p.c4]) sh25 rfl hb_3.row rfl) rfl rfl ?_
  refine RL.call rfl ok14 (c_refMRight p f hSf w3 (hRf.sub S)) rfl rfl ?_
  rintro _ w4 ⟨rfl, s5⟩
  have S := S.trans s5
  have hF0 := hF0.sub s5
  have hb_3 := hb_3.sub s5
  refine RL.ev (.not rfl) rfl rfl ?_
  refine RL.ev (.move rfl) rfl rfl ?_
  refine RL.splitB 25 rfl (fun h6 => ?_) (fun h6 => ?_)
  ·
    refine RL.off rfl rfl ?_
    refine RL.off rfl rfl ?_
    refine RL.off rfl rfl ?_
    refine RL.off rfl rfl ?_
    refine RL.ev (.pick_t rfl rfl) rfl rfl ?_
    refine RL.nil (RC.back ?_)
    refine RC.cond_t rfl ?_
    refine RC.seq ?_
    refine RC.region rfl ?_
    refine RL.call rfl ok16 (c_alive14 w4) rfl rfl ?_
    rintro _ w7 ⟨rfl, s8⟩
    have S := S.trans s8
    have hF0 := hF0.sub s8
    have hb_3 := hb_3.sub s8
    refine RL.ev (.assign rfl) rfl rfl ?_
    refine RL.nil (RC.back ?_)
    refine RC.done (rs := [.tmp 6]) (vs := [_]) rfl rfl ⟨rfl, trivial⟩ ?_
    -- end 1
    exact ⟨rfl, S⟩
  ·
    have g25 : rightM f := (by have q := h6; rw [Bool.not_eq_false'] at q; exact pB_iff.1 q)
    refine RL.ev (.field0 fo25_2 rfl) rfl rfl ?_
    refine RL.ev (.load1 sh23 rfl (hb_3.cell rfl)) rfl rfl ?_
    refine RL.ev (.len sl23 rfl) rfl rfl ?_
    refine RL.ev (.bin rfl rfl rfl) rfl rfl ?_
    refine RL.ev (.pick_f rfl rfl) rfl rfl ?_
    refine RL.nil (RC.back ?_)
    refine RC.cond_dec rfl (fun h9 => ?_) (fun h9 => ?_)
    ·
      refine RC.seq ?_
      refine RC.region rfl ?_
      refine RL.call rfl ok16 (c_alive14 w4) rfl rfl ?_
      rintro _ w10 ⟨rfl, s11⟩
      have S := S.trans s11
      have hF0 := hF0.sub s11
      have hb_3 := hb_3.sub s11
      refine RL.ev (.assign rfl) rfl rfl ?_
      refine RL.nil (RC.back ?_)
      refine RC.done (rs := [.tmp 6]) (vs := [_]) rfl rfl ⟨rfl, trivial⟩ ?_
      -- end 2
      exact ⟨rfl, S⟩
    ·
      have g30 : f.row.length < 200 := (by omega)
      have hrun := row_two (m := f) v g30 first
      rw [← hk1, ← hk2] at hrun
      have hok : runOk f [⟨3, k1, v, 0⟩, ⟨3, k2, 0, 0⟩] := ⟨g25, fun o ho => by rcases List.mem_cons.1 ho with rfl | ho; exact hok1; rw [List.mem_singleton] at ho; rw [ho]; exact hok2⟩
      refine RC.skip (RC.back ?_)
      refine RC.seq ?_
      refine RC.region rfl ?_
      refine RL.ev (.move rfl) rfl rfl ?_
      refine RL.ev (.as (v' := .agg #[.int .i64 3, .int .i64 2, .int .i64 v, .int .i64 0]) (.buildS ze34 pl34 rfl rfl) (by rfl)) rfl rfl ?_
      refine RL.ev (.as (v' := .agg #[.int .i64 3, .int .i64 3, .int .i64 0, .int .i64 0]) (.buildS ze34 pl34 rfl rfl) (by rfl)) rfl rfl ?_
      refine RL.alloc ze34 rfl rfl (fun b_7 w_7 e_7 z_7 hb_7 s_7 => ?_)
      have ge_7 := S.le e_7
      have n_3__7 := hb_3.ne e_7
      have d_hF0_b_7 := hF0.neNew e_7
      have S := S.trans s_7
      have hF0 := hF0.sub s_7
      have hb_3 := hb_3.sub s_7
      refine RL.alloc ze34 rfl rfl (fun b_8 w_8 e_8 z_8 hb_8 s_8 => ?_)
      have ge_8 := S.le e_8
      have n_3__8 := hb_3.ne e_8
      have n_7__8 := hb_7.ne e_8
      have d_hF0_b_8 := hF0.neNew e_8
      have S := S.trans s_8
      have hF0 := hF0.sub s_8
      have hb_3 := hb_3.sub s_8
      have hb_7 := hb_7.sub s_8
      refine RL.store sh34 rfl rfl rfl hb_7 (by exact Nat.le_of_ble_eq_true rfl) (by rfl) rfl (fun w12 z12 hb_7 a12 => ?_)
      have S := S.upd a12 ge_7
      have hF0 := hF0.updD a12 d_hF0_b_7
      have hb_3 := hb_3.upd a12 n_3__7
      have hb_8 := hb_8.upd a12 n_7__8.symm
      have hb_7 : Has w12 b_7 ([.int .i64 3, .int .i64 2, .int .i64 v, .int .i64 0]) _ := hb_7.now (by kernel_rfl)
      refine RL.store sh34 rfl rfl rfl hb_8 (by exact Nat.le_of_ble_eq_true rfl) (by rfl) rfl (fun w13 z13 hb_8 a13 => ?_)
      have S := S.upd a13 ge_8
      have hF0 := hF0.updD a13 d_hF0_b_8
      have hb_3 := hb_3.upd a13 n_3__8
      have hb_7 := hb_7.upd a13 n_7__8
      have hb_8 : Has w13 b_8 ([.int .i64 3, .int .i64 3, .int .i64 0, .int .i64 0]) _ := hb_8.now (by kernel_rfl)
      refine RL.nil (RC.back ?_)
      refine RC.cutx (α := Unit) (fun _ => [(1, .int .i64 v), (3, .pointer (some ⟨b_3, 0, none⟩)), (6, .bool false), (7, .pointer (some ⟨b_7, 0, none⟩)), (8, .pointer (some ⟨b_8, 0, none⟩))]) (fun _ w14 => Has w14 b_3 [.slice p.a1 f.map.length p.c1, .slice p.a2 f.tab.length p.c2, .slice p.a3 f.row.length p.c3, .slice p.a4 f.heap.length p.c4] 25 ∧ Has w14 b_7 [.int .i64 3, .int .i64 k1, .int .i64 v, .int .i64 0] 34 ∧ Has w14 b_8 [.int .i64 3, .int .i64 k2, .int .i64 0, .int .i64 0] 34 ∧ Ft (· < w.heap.size) (fun u => MoR u p f) w14 ∧ Sub w w14) ?_ (fun _ w14 hJ => ?_)
      ·
        refine RC.seq ?_
        refine RC.region rfl ?_
        refine RL.ev (.move rfl) rfl rfl ?_
        refine RL.nil (RC.back ?_)
        refine RC.cond rfl (fun h15 => ?_) (fun h15 => ?_)
        ·
          have q1 : k1 = 4 := (by rw [hk1, h15]; rfl)
          have q2 : k2 = 5 := (by rw [hk2, h15]; rfl)
          refine RC.region rfl ?_
          refine RL.ev (.field0 fo34_1 rfl) rfl rfl ?_
          refine RL.store sh3 rfl rfl rfl hb_7 (by exact Nat.le_of_ble_eq_true rfl) (by rfl) rfl (fun w16 z16 hb_7 a16 => ?_)
          have S := S.upd a16 ge_7
          have hF0 := hF0.updD a16 d_hF0_b_7
          have hb_3 := hb_3.upd a16 n_3__7
          have hb_8 := hb_8.upd a16 n_7__8.symm
          have hb_7 : Has w16 b_7 ([.int .i64 3, .int .i64 4, .int .i64 v, .int .i64 0]) _ := hb_7
          refine RL.ev (.field0 fo34_1 rfl) rfl rfl ?_
          refine RL.store sh3 rfl rfl rfl hb_8 (by exact Nat.le_of_ble_eq_true rfl) (by rfl) rfl (fun w17 z17 hb_8 a17 => ?_)
          have S := S.upd a17 ge_8
          have hF0 := hF0.updD a17 d_hF0_b_8
          have hb_3 := hb_3.upd a17 n_3__8
          have hb_7 := hb_7.upd a17 n_7__8
          have hb_8 : Has w17 b_8 ([.int .i64 3, .int .i64 5, .int .i64 0, .int .i64 0]) _ := hb_8
          exact RL.nil (fun a ka => ⟨(), ⟨hb_3, by rw [q1]; exact hb_7, by rw [q2]; exact hb_8, hF0, S⟩, ka.keep (keep_of (by repeat (first | exact trivial | refine And.intro rfl ?_)))⟩)
        ·
          have q1 : k1 = 2 := (by rw [hk1, h15]; rfl)
          have q2 : k2 = 3 := (by rw [hk2, h15]; rfl)
          exact RC.skip (fun a ka => ⟨(), ⟨hb_3, by rw [q1]; exact hb_7, by rw [q2]; exact hb_8, hF0, S⟩, ka.keep (keep_of (by repeat (first | exact trivial | refine And.intro rfl ?_)))⟩)
      obtain ⟨hb_3, hb_7, hb_8, hF0, S⟩ := hJ
      refine RC.seq ?_
      refine RC.region rfl ?_
      refine RL.ev (.loadR ([.slice p.a1 f.map.length p.c1, .slice p.a2 f.tab.length p.c2, .slice p.a3 f.row.length p.c3, .slice p.a4 f.heap.length p.c4]) sh25 rfl hb_3.row rfl) rfl rfl ?_
      refine RL.ev (.loadR ([.int .i64 3, .int .i64 k1, .int .i64 v, .int .i64 0]) sh34 rfl hb_7.row rfl) rfl rfl ?_
      refine RL.ev (.loadR ([.int .i64 3, .int .i64 k2, .int .i64 0, .int .i64 0]) sh34 rfl hb_8.row rfl) rfl rfl ?_
      refine RL.buildSliceN (vs := [_, _]) sl26 _ ze34 rfl ⟨rfl, rfl, trivial⟩ rfl rfl rfl rfl rfl rfl (fun b_42 w_42 e_42 z_42 hb_42 s_42 => ?_)
      have ge_42 := S.le e_42
      have n_3__42 := hb_3.ne e_42
      have n_7__42 := hb_7.ne e_42
      have n_8__42 := hb_8.ne e_42
      have d_hF0_b_42 := hF0.neNew e_42
      have S := S.trans s_42
      have hb_3 := hb_3.sub s_42
      have hb_7 := hb_7.sub s_42
      have hb_8 := hb_8.sub s_42
      have hF0 := hF0.sub s_42
      refine RL.call rfl ok13 (c_Run p f hSf [⟨3, k1, v, 0⟩, ⟨3, k2, 0, 0⟩] (some ⟨b_42, 0, none⟩) 2 2 rfl (by simp) w_42 _ hF0 (Has.sl0 (rows := [⟨3, k1, v, 0⟩, ⟨3, k2, 0, 0⟩].map OpT.cells) hb_42 (by intro r hr; obtain ⟨x, _, rfl⟩ := List.mem_map.1 hr; rfl))) rfl rfl ?_
      rintro _ w18 h43
      obtain ⟨s19, p', r1, rs, e, M', a', c', M2, rfl, hs', hF', hup, hF2, hup2, hy, _⟩ := h43.out (fun k hk => Nat.lt_of_lt_of_le hk S.size)
      obtain ⟨e1, e2, e3⟩ := hy hok
      rw [hrun] at e1 e2
      have e1 : f = r1 := e1.symm
      have e2 : rs = [⟨0, 0, 0⟩, ⟨0, v, 0⟩] := e2
      subst e1 e2 e3
      have d_hF'_b_3 := upNe hup d_hF0_b_3 hb_3.lt
      have d_hF'_b_7 := upNe hup d_hF0_b_7 hb_7.lt
      have d_hF'_b_8 := upNe hup d_hF0_b_8 hb_8.lt
      have d_hF'_b_42 := upNe hup d_hF0_b_42 hb_42.lt
      have S := S.trans s19
      have hb_3 := hb_3.sub s19
      have hb_7 := hb_7.sub s19
      have hb_8 := hb_8.sub s19
      have hF0 := hF0.sub s19
      have hb_42 := hb_42.sub s19
      have hR2 := hF2.now
      have hR1 := hF'.now
      obtain ⟨W9, hW9⟩ : ∃ W, W = w18 := ⟨_, rfl⟩
      have S9 : Sub W9 w18 := hW9 ▸ Sub.refl _
      rw [← hW9] at hR2 hR1
      refine RL.ev (.move rfl) rfl rfl ?_
      refine RL.ev (.extract rfl rfl) rfl rfl ?_
      refine RL.ev (.extract rfl rfl) rfl rfl ?_
      refine RL.ev (.extract rfl rfl) rfl rfl ?_
      refine RL.alloc ze25 rfl rfl (fun b_9 w_9 e_9 z_9 hb_9 s_9 => ?_)
      have ge_9 := S.le e_9
      have n_3__9 := hb_3.ne e_9
      have n_7__9 := hb_7.ne e_9
      have n_8__9 := hb_8.ne e_9
      have n_42__9 := hb_42.ne e_9
      have d_hF0_b_9 := hF0.neNew e_9
      have S := S.trans s_9
      have hb_3 := hb_3.sub s_9
      have hb_7 := hb_7.sub s_9
      have hb_8 := hb_8.sub s_9
      have hF0 := hF0.sub s_9
      have hb_42 := hb_42.sub s_9
      have geS9_9 := S9.le e_9
      have S9 := S9.trans s_9
      refine RL.store sh25 rfl rfl rfl hb_9 (by exact Nat.le_of_ble_eq_true rfl) (by rfl) rfl (fun w20 z20 hb_9 a20 => ?_)
      have S := S.upd a20 ge_9
      have hb_3 := hb_3.upd a20 n_3__9
      have hb_7 := hb_7.upd a20 n_7__9
      have hb_8 := hb_8.upd a20 n_8__9
      have hF0 := hF0.updD a20 d_hF0_b_9
      have hb_42 := hb_42.upd a20 n_42__9
      have S9 := S9.upd a20 geS9_9
      refine RL.ev (.assign rfl) rfl rfl ?_
      refine RL.ev (.assign rfl) rfl rfl ?_
      refine RL.nil (RC.back ?_)
      refine RC.seq ?_
      refine RC.seq ?_
      refine RC.region rfl ?_
      refine RL.ev (.move rfl) rfl rfl ?_
      refine RL.ev (.as (v' := .bool false) (.bin rfl rfl rfl) (congrArg Value.bool (decide_eq_false (fun h => h rfl)))) rfl rfl ?_
      refine RL.ev (.move rfl) rfl rfl ?_
      refine RL.ev (.move rfl) rfl rfl ?_
      refine RL.ev (.len sl28 rfl) rfl rfl ?_
      refine RL.ev (.as (v' := .bool false) (.bin rfl rfl rfl) (congrArg Value.bool (decide_eq_false (fun h => h rfl)))) rfl rfl ?_
      refine RL.ev (.pick_f rfl rfl) rfl rfl ?_
      refine RL.ev (.move rfl) rfl rfl ?_
      refine RL.ev (.move rfl) rfl rfl ?_
      refine RL.ev (.indexS sl28 rfl rfl (by simp) (hR2.is (i := 0) (by simp))) rfl rfl ?_
      refine RL.ev (.loadR ((⟨0, 0, 0⟩ : ResT).cells) sh39 rfl ((hR2.sub S9).rowAt (enc := ResT.cells) (i := 0) (x := ⟨0, 0, 0⟩) rfl) rfl) rfl rfl ?_
      refine RL.ev (.as (v' := .agg (⟨0, 0, 0⟩ : ResT).cells.toArray) (.buildS ze39 pl39 rfl rfl) (by rfl)) rfl rfl ?_
      refine RL.ev (.as (v' := .bool false) (.neS (xs := (⟨0, 0, 0⟩ : ResT).cells) (ys := (⟨0, 0, 0⟩ : ResT).cells) fk39 eg39 sh39 rfl rfl rfl rfl rfl) (congrArg Value.bool (by rfl))) rfl rfl ?_
      refine RL.ev (.pick_f rfl rfl) rfl rfl ?_
      refine RL.ev (.move rfl) rfl rfl ?_
      refine RL.ev (.move rfl) rfl rfl ?_
      refine RL.ev (.indexS sl28 rfl rfl (by simp) (hR2.is (i := 1) (by simp))) rfl rfl ?_
      refine RL.ev (.loadR ((⟨0, v, 0⟩ : ResT).cells) sh39 rfl ((hR2.sub S9).rowAt (enc := ResT.cells) (i := 1) (x := ⟨0, v, 0⟩) rfl) rfl) rfl rfl ?_
      refine RL.ev (.move rfl) rfl rfl ?_
      refine RL.ev (.as (v' := .agg (⟨0, v, 0⟩ : ResT).cells.toArray) (.buildS ze39 pl39 rfl rfl) (by rfl)) rfl rfl ?_
      refine RL.ev (.as (v' := .bool false) (.neS (xs := (⟨0, v, 0⟩ : ResT).cells) (ys := (⟨0, v, 0⟩ : ResT).cells) fk39 eg39 sh39 rfl rfl rfl rfl rfl) (congrArg Value.bool (by rw [eqL_res _ _ rfl]; rfl))) rfl rfl ?_
      refine RL.ev (.pick_f rfl rfl) rfl rfl ?_
      refine RL.ev (.move rfl) rfl rfl ?_
      refine RL.ev (.loadR (_) sh25 rfl hb_9.row rfl) rfl rfl ?_
      refine RL.ev (.loadR ([.slice p.a1 f.map.length p.c1, .slice p.a2 f.tab.length p.c2, .slice p.a3 f.row.length p.c3, .slice p.a4 f.heap.length p.c4]) sh25 rfl hb_3.row rfl) rfl rfl ?_
      refine RL.call rfl ok17 (FC.yes (c_refMSame p' f hs' p f hSf w20 (hR1.sub S9) (hRf.sub S)) (sameM_of rfl)) rfl rfl ?_
      rintro _ w21 ⟨rfl, s22⟩
      have S := S.trans s22
      have hb_3 := hb_3.sub s22
      have hb_7 := hb_7.sub s22
      have hb_8 := hb_8.sub s22
      have hF0 := hF0.sub s22
      have hb_42 := hb_42.sub s22
      have S9 := S9.trans s22
      have hb_9 := hb_9.sub s22
      refine RL.ev (.not rfl) rfl rfl ?_
      refine RL.ev (.pick_f rfl rfl) rfl rfl ?_
      refine RL.ev (.move rfl) rfl rfl ?_
      refine RL.call rfl ok16 (c_alive14 w21) rfl rfl ?_
      rintro _ w23 ⟨rfl, s24⟩
      have S := S.trans s24
      have hb_3 := hb_3.sub s24
      have hb_7 := hb_7.sub s24
      have hb_8 := hb_8.sub s24
      have hF0 := hF0.sub s24
      have hb_42 := hb_42.sub s24
      have S9 := S9.trans s24
      have hb_9 := hb_9.sub s24
      refine RL.ev (.not rfl) rfl rfl ?_
      refine RL.ev (.pick_f rfl rfl) rfl rfl ?_
      refine RL.nil (RC.back ?_)
      refine RC.cond_f rfl ?_
      refine RC.skip (RC.back ?_)
      refine RC.seq ?_
      refine RC.region rfl ?_
      refine RL.ev (.loadR ([.slice p.a1 f.map.length p.c1, .slice p.a2 f.tab.length p.c2, .slice p.a3 f.row.length p.c3, .slice p.a4 f.heap.length p.c4]) sh25 rfl hb_3.row rfl) rfl rfl ?_
      refine RL.ev (.move rfl) rfl rfl ?_
      refine RL.ev (.as (v' := .agg (⟨3, 2, v, 0⟩ : OpT).cells.toArray) (.buildS ze34 pl34 rfl rfl) (by rfl)) rfl rfl ?_
      refine RL.call rfl ok20 (c_Do p f hSf ⟨3, 2, v, 0⟩ w23 _ hF0) rfl rfl ?_
      rintro _ w25 h83
      obtain ⟨s26, p2, x1, x2, e4, M4, rfl, hs4, hF4, hup4, hy4, _⟩ := h83.out
      obtain ⟨e1, e2, e3⟩ := hy4 ⟨g25, hok3⟩
      rw [row_put v g30] at e1 e2
      have e1 : x1 = { f with row := f.row ++ [v] } := e1
      have e2 : x2 = ⟨0, 0, 0⟩ := e2
      subst e1 e2 e3
      have d_hF4_b_3 := upNe hup4 d_hF0_b_3 hb_3.lt
      have d_hF4_b_7 := upNe hup4 d_hF0_b_7 hb_7.lt
      have d_hF4_b_8 := upNe hup4 d_hF0_b_8 hb_8.lt
      have d_hF4_b_42 := upNe hup4 d_hF0_b_42 hb_42.lt
      have d_hF4_b_9 := upNe hup4 d_hF0_b_9 hb_9.lt
      have S := S.trans s26
      have hb_3 := hb_3.sub s26
      have hb_7 := hb_7.sub s26
      have hb_8 := hb_8.sub s26
      have hF0 := hF0.sub s26
      have hb_42 := hb_42.sub s26
      have S9 := S9.trans s26
      have hb_9 := hb_9.sub s26
      have hRx : rightM { f with row := f.row ++ [v] } := (by have q := rightM_do g25 hok3; rw [row_put v g30] at q; exact q)
      have hok4 : okP ⟨3, 1, (f.row.length : Int), 0⟩ := (by simp [okP, kindP, hasAP, hasBP]; omega)
      refine RL.ev (.move rfl) rfl rfl ?_
      refine RL.ev (.extract rfl rfl) rfl rfl ?_
      refine RL.ev (.extract rfl rfl) rfl rfl ?_
      refine RL.ev (.extract rfl rfl) rfl rfl ?_
      refine RL.alloc ze25 rfl rfl (fun b_12 w_12 e_12 z_12 hb_12 s_12 => ?_)
      have ge_12 := S.le e_12
      have n_3__12 := hb_3.ne e_12
      have n_7__12 := hb_7.ne e_12
      have n_8__12 := hb_8.ne e_12
      have n_42__12 := hb_42.ne e_12
      have n_9__12 := hb_9.ne e_12
      have d_hF0_b_12 := hF0.neNew e_12
      have d_hF4_b_12 := hF4.neNew e_12
      have S := S.trans s_12
      have hb_3 := hb_3.sub s_12
      have hb_7 := hb_7.sub s_12
      have hb_8 := hb_8.sub s_12
      have hF0 := hF0.sub s_12
      have hb_42 := hb_42.sub s_12
      have geS9_12 := S9.le e_12
      have S9 := S9.trans s_12
      have hb_9 := hb_9.sub s_12
      have hF4 := hF4.sub s_12
      refine RL.alloc ze39 rfl rfl (fun b_13 w_13 e_13 z_13 hb_13 s_13 => ?_)
      have ge_13 := S.le e_13
      have n_3__13 := hb_3.ne e_13
      have n_7__13 := hb_7.ne e_13
      have n_8__13 := hb_8.ne e_13
      have n_42__13 := hb_42.ne e_13
      have n_9__13 := hb_9.ne e_13
      have n_12__13 := hb_12.ne e_13
      have d_hF0_b_13 := hF0.neNew e_13
      have d_hF4_b_13 := hF4.neNew e_13
      have S := S.trans s_13
      have hb_3 := hb_3.sub s_13
      have hb_7 := hb_7.sub s_13
      have hb_8 := hb_8.sub s_13
      have hF0 := hF0.sub s_13
      have hb_42 := hb_42.sub s_13
      have geS9_13 := S9.le e_13
      have S9 := S9.trans s_13
      have hb_9 := hb_9.sub s_13
      have hF4 := hF4.sub s_13
      have hb_12 := hb_12.sub s_13
      refine RL.store sh25 rfl rfl rfl hb_12 (by exact Nat.le_of_ble_eq_true rfl) (by rfl) rfl (fun w27 z27 hb_12 a27 => ?_)
      have S := S.upd a27 ge_12
      have hb_3 := hb_3.upd a27 n_3__12
      have hb_7 := hb_7.upd a27 n_7__12
      have hb_8 := hb_8.upd a27 n_8__12
      have hF0 := hF0.updD a27 d_hF0_b_12
      have hb_42 := hb_42.upd a27 n_42__12
      have S9 := S9.upd a27 geS9_12
      have hb_9 := hb_9.upd a27 n_9__12
      have hF4 := hF4.updD a27 d_hF4_b_12
      have hb_13 := hb_13.upd a27 n_12__13.symm
      have hb_12 : Has w27 b_12 ([.slice p2.a1 f.map.length p2.c1, .slice p2.a2 f.tab.length p2.c2, .slice p2.a3 (f.row ++ [v]).length p2.c3, .slice p2.a4 f.heap.length p2.c4]) _ := hb_12.now (by kernel_rfl)
      refine RL.store sh39 rfl rfl rfl hb_13 (by exact Nat.le_of_ble_eq_true rfl) (by rfl) rfl (fun w28 z28 hb_13 a28 => ?_)
      have S := S.upd a28 ge_13
      have hb_3 := hb_3.upd a28 n_3__13
      have hb_7 := hb_7.upd a28 n_7__13
      have hb_8 := hb_8.upd a28 n_8__13
      have hF0 := hF0.updD a28 d_hF0_b_13
      have hb_42 := hb_42.upd a28 n_42__13
      have S9 := S9.upd a28 geS9_13
      have hb_9 := hb_9.upd a28 n_9__13
      have hF4 := hF4.updD a28 d_hF4_b_13
      have hb_12 := hb_12.upd a28 n_12__13
      refine RL.ev (.assign rfl) rfl rfl ?_
      refine RL.nil (RC.back ?_)
      refine RC.seq ?_
      refine RC.region rfl ?_
      refine RL.ev (.loadR ([.slice p2.a1 f.map.length p2.c1, .slice p2.a2 f.tab.length p2.c2, .slice p2.a3 (f.row ++ [v]).length p2.c3, .slice p2.a4 f.heap.length p2.c4]) sh25 rfl hb_12.row rfl) rfl rfl ?_
      refine RL.ev (.field0 fo25_2 rfl) rfl rfl ?_
      refine RL.ev (.load1 sh23 rfl (hb_3.cell rfl)) rfl rfl ?_
      refine RL.ev (.len sl23 rfl) rfl rfl ?_
      refine RL.ev (.as (v' := .agg (⟨3, 1, (f.row.length : Int), 0⟩ : OpT).cells.toArray) (.buildS ze34 pl34 rfl rfl) (by rfl)) rfl rfl ?_
      refine RL.call rfl ok20 (c_Do p2 { f with row := f.row ++ [v] } hs4 ⟨3, 1, (f.row.length : Int), 0⟩ w28 _ hF4) rfl rfl ?_
      rintro _ w29 h93
      obtain ⟨s30, p5, y1, y2, e5, M5, rfl, hs5, hF5, hup5, hy5, _⟩ := h93.out
      obtain ⟨e1, e2, e3⟩ := hy5 ⟨hRx, hok4⟩
      rw [row_get v] at e1 e2
      have e1 : y1 = { f with row := f.row ++ [v] } := e1
      have e2 : y2 = ⟨0, v, 0⟩ := e2
      subst e1 e2 e3
      have S := S.trans s30
      have hb_3 := hb_3.sub s30
      have hb_7 := hb_7.sub s30
      have hb_8 := hb_8.sub s30
      have hF0 := hF0.sub s30
      have hb_42 := hb_42.sub s30
      have S9 := S9.trans s30
      have hb_9 := hb_9.sub s30
      have hF4 := hF4.sub s30
      have hb_12 := hb_12.sub s30
      have hb_13 := hb_13.sub s30
      refine RL.ev (.move rfl) rfl rfl ?_
      refine RL.ev (.extract rfl rfl) rfl rfl ?_
      refine RL.ev (.extract rfl rfl) rfl rfl ?_
      refine RL.ev (.extract rfl rfl) rfl rfl ?_
      refine RL.alloc ze25 rfl rfl (fun b_15 w_15 e_15 z_15 hb_15 s_15 => ?_)
      have ge_15 := S.le e_15
      have n_3__15 := hb_3.ne e_15
      have n_7__15 := hb_7.ne e_15
      have n_8__15 := hb_8.ne e_15
      have n_42__15 := hb_42.ne e_15
      have n_9__15 := hb_9.ne e_15
      have n_12__15 := hb_12.ne e_15
      have n_13__15 := hb_13.ne e_15
      have d_hF0_b_15 := hF0.neNew e_15
      have d_hF4_b_15 := hF4.neNew e_15
      have S := S.trans s_15
      have hb_3 := hb_3.sub s_15
      have hb_7 := hb_7.sub s_15
      have hb_8 := hb_8.sub s_15
      have hF0 := hF0.sub s_15
      have hb_42 := hb_42.sub s_15
      have geS9_15 := S9.le e_15
      have S9 := S9.trans s_15
      have hb_9 := hb_9.sub s_15
      have hF4 := hF4.sub s_15
      have hb_12 := hb_12.sub s_15
      have hb_13 := hb_13.sub s_15
      refine RL.alloc ze39 rfl rfl (fun b_16 w_16 e_16 z_16 hb_16 s_16 => ?_)
      have ge_16 := S.le e_16
      have n_3__16 := hb_3.ne e_16
      have n_7__16 := hb_7.ne e_16
      have n_8__16 := hb_8.ne e_16
      have n_42__16 := hb_42.ne e_16
      have n_9__16 := hb_9.ne e_16
      have n_12__16 := hb_12.ne e_16
      have n_13__16 := hb_13.ne e_16
      have n_15__16 := hb_15.ne e_16
      have d_hF0_b_16 := hF0.neNew e_16
      have d_hF4_b_16 := hF4.neNew e_16
      have S := S.trans s_16
      have hb_3 := hb_3.sub s_16
      have hb_7 := hb_7.sub s_16
      have hb_8 := hb_8.sub s_16
      have hF0 := hF0.sub s_16
      have hb_42 := hb_42.sub s_16
      have geS9_16 := S9.le e_16
      have S9 := S9.trans s_16
      have hb_9 := hb_9.sub s_16
      have hF4 := hF4.sub s_16
      have hb_12 := hb_12.sub s_16
      have hb_13 := hb_13.sub s_16
      have hb_15 := hb_15.sub s_16
      refine RL.store sh25 rfl rfl rfl hb_15 (by exact Nat.le_of_ble_eq_true rfl) (by rfl) rfl (fun w31 z31 hb_15 a31 => ?_)
      have S := S.upd a31 ge_15
      have hb_3 := hb_3.upd a31 n_3__15
      have hb_7 := hb_7.upd a31 n_7__15
      have hb_8 := hb_8.upd a31 n_8__15
      have hF0 := hF0.updD a31 d_hF0_b_15
      have hb_42 := hb_42.upd a31 n_42__15
      have S9 := S9.upd a31 geS9_15
      have hb_9 := hb_9.upd a31 n_9__15
      have hF4 := hF4.updD a31 d_hF4_b_15
      have hb_12 := hb_12.upd a31 n_12__15
      have hb_13 := hb_13.upd a31 n_13__15
      have hb_16 := hb_16.upd a31 n_15__16.symm
      have hb_15 : Has w31 b_15 ([.slice p5.a1 f.map.length p5.c1, .slice p5.a2 f.tab.length p5.c2, .slice p5.a3 (f.row ++ [v]).length p5.c3, .slice p5.a4 f.heap.length p5.c4]) _ := hb_15.now (by kernel_rfl)
      refine RL.store sh39 rfl rfl rfl hb_16 (by exact Nat.le_of_ble_eq_true rfl) (by rfl) rfl (fun w32 z32 hb_16 a32 => ?_)
      have S := S.upd a32 ge_16
      have hb_3 := hb_3.upd a32 n_3__16
      have hb_7 := hb_7.upd a32 n_7__16
      have hb_8 := hb_8.upd a32 n_8__16
      have hF0 := hF0.updD a32 d_hF0_b_16
      have hb_42 := hb_42.upd a32 n_42__16
      have S9 := S9.upd a32 geS9_16
      have hb_9 := hb_9.upd a32 n_9__16
      have hF4 := hF4.updD a32 d_hF4_b_16
      have hb_12 := hb_12.upd a32 n_12__16
      have hb_13 := hb_13.upd a32 n_13__16
      have hb_15 := hb_15.upd a32 n_15__16
      have hb_16 : Has w32 b_16 ([.int .i64 0, .int .i64 v, .int .i64 0]) _ := hb_16.now (by kernel_rfl)
      refine RL.ev (.assign rfl) rfl rfl ?_
      refine RL.nil (RC.back ?_)
      refine RC.seq ?_
      refine RC.region rfl ?_
      refine RL.ev (.move rfl) rfl rfl ?_
      refine RL.ev (.as (v' := .bool true) (.bin rfl rfl rfl) (congrArg Value.bool (decide_eq_true (rfl)))) rfl rfl ?_
      refine RL.ev (.move rfl) rfl rfl ?_
      refine RL.ev (.move rfl) rfl rfl ?_
      refine RL.ev (.as (v' := .bool true) (.bin rfl rfl rfl) (congrArg Value.bool (decide_eq_true (rfl)))) rfl rfl ?_
      refine RL.ev (.pick_t rfl rfl) rfl rfl ?_
      refine RL.ev (.move rfl) rfl rfl ?_
      refine RL.ev (.loadR ([.int .i64 0, .int .i64 v, .int .i64 0]) sh39 rfl hb_16.row rfl) rfl rfl ?_
      refine RL.ev (.move rfl) rfl rfl ?_
      refine RL.ev (.as (v' := .agg (⟨0, v, 0⟩ : ResT).cells.toArray) (.buildS ze39 pl39 rfl rfl) (by rfl)) rfl rfl ?_
      refine RL.ev (.as (v' := .bool true) (.eqS (xs := (⟨0, v, 0⟩ : ResT).cells) (ys := (⟨0, v, 0⟩ : ResT).cells) fk39 eg39 sh39 rfl rfl rfl rfl rfl) (congrArg Value.bool (eqL_res _ _ rfl))) rfl rfl ?_
      refine RL.ev (.pick_t rfl rfl) rfl rfl ?_
      refine RL.ev (.move rfl) rfl rfl ?_
      refine RL.ev (.field0 fo25_2 rfl) rfl rfl ?_
      refine RL.ev (.load1 sh23 rfl (hb_15.cell rfl)) rfl rfl ?_
      refine RL.ev (.len sl23 rfl) rfl rfl ?_
      refine RL.ev (.field0 fo25_2 rfl) rfl rfl ?_
      refine RL.ev (.load1 sh23 rfl (hb_3.cell rfl)) rfl rfl ?_
      refine RL.ev (.len sl23 rfl) rfl rfl ?_
      refine RL.ev (.as (.bin rfl rfl rfl) (wi64 (y := (f.row.length : Int) + 1) (by rfl) (by omega))) rfl rfl ?_
      refine RL.ev (.as (v' := .bool true) (.bin rfl rfl rfl) (congrArg Value.bool (decide_eq_true (by simp)))) rfl rfl ?_
      refine RL.ev (.pick_t rfl rfl) rfl rfl ?_
      refine RL.ev (.assign rfl) rfl rfl ?_
      refine RL.nil (RC.back ?_)
      refine RC.done (rs := [.tmp 6]) (vs := [_]) rfl rfl ⟨rfl, trivial⟩ ?_
      -- end 3
      exact ⟨rfl, S⟩
end Go.Proofs.Ytjafbffehmombaa
