/-
  What the law ModelSizes leans on, part 4.
-/
import Derived.Test.YtjafbffehmombaaPModelSizes3
set_option linter.unusedVariables false
set_option linter.unusedSimpArgs false
namespace Go.Proofs.Ytjafbffehmombaa
open Go Go.XL
def runM (m : Mo) : List OpT → Mo × List ResT
  | [] => (m, [])
  | o :: os => ((runM (doM m o).1 os).1, (doM m o).2 :: (runM (doM m o).1 os).2)
theorem runM_app (l r : List OpT) : ∀ m : Mo, runM m (l ++ r) = ((runM (runM m l).1 r).1, (runM m l).2 ++ (runM (runM m l).1 r).2) := by
  induction l with
  | nil => intro m; rfl
  | cons o l ih => intro m; simp only [List.cons_append, runM, ih]
theorem runM_step {m : Mo} {ops : List OpT} {i : Nat} {o : OpT} (h : ops[i]? = some o) : runM m (ops.take (i + 1)) = ((doM (runM m (ops.take i)).1 o).1, (runM m (ops.take i)).2 ++ [(doM (runM m (ops.take i)).1 o).2]) := by
  rw [List.take_add_one, h, runM_app]; rfl
theorem runM_len (m : Mo) (ops : List OpT) : (runM m ops).2.length = ops.length := by
  induction ops generalizing m with
  | nil => rfl
  | cons o l ih => simp only [runM, List.length_cons, ih]
def runOk (m : Mo) (ops : List OpT) : Prop := rightM m ∧ ∀ o ∈ ops, okP o
theorem rightM_run {ops : List OpT} : ∀ {m : Mo}, runOk m ops → rightM (runM m ops).1 := by
  induction ops with
  | nil => exact fun h => h.1
  | cons o l ih => exact fun h => ih ⟨rightM_do h.1 (h.2 o (by simp)), fun x hx => h.2 x (by simp [hx])⟩
theorem runOk.take {m : Mo} {ops : List OpT} (h : runOk m ops) (i : Nat) : runOk m (ops.take i) := ⟨h.1, fun x hx => h.2 x (List.mem_of_mem_take hx)⟩
theorem c_run1 (o : OpT) (w : World) : FC Try.prog 24 [.agg o.cells.toArray] w (Val (.bool (!decide (okP o))) w) := by
  refine FC.intro Try.func24 rfl Try.ntmps24 rfl ?_
  have S := Sub.refl w
  refine RC.seq ?_
  refine RC.region rfl ?_
  refine RL.box rfl rfl rfl (fun b_1 w_1 e_1 z_1 hb_1 s_1 => ?_)
  have ge_1 := S.le e_1
  have S := S.trans s_1
  have hb_1 : Has w_1 b_1 ([.int .i64 o.box, .int .i64 o.kind, .int .i64 o.a, .int .i64 o.b]) _ := hb_1
  refine RL.ev (.assign rfl) rfl rfl ?_
  refine RL.nil (RC.back ?_)
  refine RC.seq ?_
  refine RC.region rfl ?_
  refine RL.ev (.loadR ([.int .i64 o.box, .int .i64 o.kind, .int .i64 o.a, .int .i64 o.b]) sh34 rfl hb_1.row rfl) rfl rfl ?_
  refine RL.call rfl ok25 (c_opRight o w_1) rfl rfl ?_
  rintro _ w1 ⟨rfl, s2⟩
  have S := S.trans s2
  have hb_1 := hb_1.sub s2
  refine RL.ev (.not rfl) rfl rfl ?_
  refine RL.ev (.assign rfl) rfl rfl ?_
  refine RL.nil (RC.back ?_)
  refine RC.done (rs := [.tmp 2]) (vs := [_]) rfl rfl ⟨rfl, trivial⟩ ?_
  -- end 1
  exact ⟨rfl, S⟩
structure RunI (b2 b4 : Nat) (w W : World) (M : Nat → Prop) (cur : Mo × List ResT) (p' : Ph) (M' : Nat → Prop) (a7 : Option Addr) (c7 : Nat) : Prop where
  hb : Has W b2 [.slice p'.a1 cur.1.map.length p'.c1, .slice p'.a2 cur.1.tab.length p'.c2, .slice p'.a3 cur.1.row.length p'.c3, .slice p'.a4 cur.1.heap.length p'.c4] 25
  hb4 : Has W b4 [.slice none 0 0, .slice none 0 0, .slice none 0 0, .slice none 0 0] 25
  hF : Ft M' (fun u => MoR u p' cur.1) W
  hs : MoS p' cur.1
  o7 : Ows w.heap.size W 39 3 (.slice a7 (cur.2.map ResT.cells).length c7) (cur.2.map ResT.cells)
  d1 : ∀ k, M' k → k ≠ b2
  d2 : ∀ k, M' k → k ≠ b4
  d3 : ∀ k, ob (.slice a7 (cur.2.map ResT.cells).length c7) = some k → k ≠ b2
  d4 : ∀ k, ob (.slice a7 (cur.2.map ResT.cells).length c7) = some k → k ≠ b4
  d5 : ∀ k, ob (.slice a7 (cur.2.map ResT.cells).length c7) = some k → M' k → False
  up : Up M w M'
  S : Sub w W
/-- an answer of Run -/
def AnsRun (M : Nat → Prop) (w w' : World) (m : Mo) (ops : List OpT) (u : Value) : Prop :=
  Sub w w' ∧ ((runOk m ops ∧ ∃ p' M' a' c', u = .tuple #[moV p' (runM m ops).1, .slice a' ((runM m ops).2.map ResT.cells).length c', .int .i64 0] ∧ MoS p' (runM m ops).1 ∧ Ft M' (fun u => MoR u p' (runM m ops).1) w' ∧ Up M w M' ∧ Ows w.heap.size w' 39 3 (.slice a' ((runM m ops).2.map ResT.cells).length c') ((runM m ops).2.map ResT.cells) ∧ (∀ k, ob (.slice a' ((runM m ops).2.map ResT.cells).length c') = some k → M' k → False)) ∨ (¬ runOk m ops ∧ u = .tuple #[moV p0 m0, .slice none 0 0, .int .i64 1]))
set_option maxHeartbeats 1000000 in
theorem c_Run (p : Ph) (m : Mo) (hs : MoS p m) (ops : List OpT) (pa : Option Addr) (pc n : Nat) (hn : n = ops.length) (hl60 : ops.length ≤ 4000) (w : World) (M : Nat → Prop) (hF : Ft M (fun u => MoR u p m) w) (ho : Sl w pa 4 (ops.map OpT.cells)) :
    FC Try.prog 13 [moV p m, .slice pa n pc] w (fun u w' => AnsRun M w w' m ops u) := by
  subst hn
  have hF0 := hF
  refine FC.intro Try.func13 rfl Try.ntmps13 rfl ?_
  have S := Sub.refl w
  refine RC.seq ?_
  refine RC.region rfl ?_
  refine RL.box rfl rfl rfl (fun b_2 w_2 e_2 z_2 hb_2 s_2 => ?_)
  have ge_2 := S.le e_2
  have d_hF_b_2 := hF.neNew e_2
  have S := S.trans s_2
  have hF := hF.sub s_2
  have hb_2 : Has w_2 b_2 ([.slice p.a1 m.map.length p.c1, .slice p.a2 m.tab.length p.c2, .slice p.a3 m.row.length p.c3, .slice p.a4 m.heap.length p.c4]) _ := hb_2
  refine RL.alloc ze25 rfl rfl (fun b_4 w_4 e_4 z_4 hb_4 s_4 => ?_)
  have ge_4 := S.le e_4
  have n_2__4 := hb_2.ne e_4
  have d_hF_b_4 := hF.neNew e_4
  have S := S.trans s_4
  have hF := hF.sub s_4
  have hb_2 := hb_2.sub s_4
  refine RL.ev (.assign rfl) rfl rfl ?_
  refine RL.ev (.assign rfl) rfl rfl ?_
  refine RL.nil (RC.back ?_)
  refine RC.seq ?_
  refine RC.seq ?_
  refine RC.region rfl ?_
  refine RL.ev (.loadR ([.slice p.a1 m.map.length p.c1, .slice p.a2 m.tab.length p.c2, .slice p.a3 m.row.length p.c3, .slice p.a4 m.heap.length p.c4]) sh25 rfl hb_2.row rfl) rfl rfl ?_
  refine RL.call rfl ok19 (c_right p m hs w_4 hF.now) rfl rfl ?_
  rintro _ w1 ⟨rfl, s2⟩
  have S := S.trans s2
  have hF := hF.sub s2
  have hb_2 := hb_2.sub s2
  have hb_4 := hb_4.sub s2
  refine RL.ev (.not rfl) rfl rfl ?_
  refine RL.ev (.move rfl) rfl rfl ?_
  refine RL.splitB 15 rfl (fun h3 => ?_) (fun h3 => ?_)
  ·
    have g15 : ¬ rightM m := (fun e => by rw [pB_yes e] at h3; cases h3)
    refine RL.off rfl rfl ?_
    refine RL.off rfl rfl ?_
    refine RL.off rfl rfl ?_
    refine RL.ev (.pick_t rfl rfl) rfl rfl ?_
    refine RL.ev (.move rfl) rfl rfl ?_
    refine RL.off rfl rfl ?_
    refine RL.off rfl rfl ?_
    refine RL.ev (.pick_t rfl rfl) rfl rfl ?_
    refine RL.nil (RC.back ?_)
    refine RC.cond_t rfl ?_
    refine RC.seq ?_
    refine RC.region rfl ?_
    refine RL.ev (.as (v' := .agg #[.slice none 0 0, .slice none 0 0, .slice none 0 0, .slice none 0 0]) (.buildS ze25 pl25 rfl rfl) (by kernel_rfl)) rfl rfl ?_
    refine RL.store sh25 rfl rfl rfl hb_4 (by exact Nat.le_of_ble_eq_true rfl) (by rfl) rfl (fun w4 z4 hb_4 a4 => ?_)
    have S := S.upd a4 ge_4
    have hF := hF.updD a4 d_hF_b_4
    have hb_2 := hb_2.upd a4 n_2__4
    have hb_4 : Has w4 b_4 ([.slice none 0 0, .slice none 0 0, .slice none 0 0, .slice none 0 0]) _ := hb_4.now (by kernel_rfl)
    refine RL.ev (.assign rfl) rfl rfl ?_
    refine RL.ev (.assign rfl) rfl rfl ?_
    refine RL.nil (RC.back ?_)
    refine RC.done (rs := [.cell 4 25, .tmp 5, .tmp 6]) (vs := [_, _, _]) rfl rfl ⟨⟨_, rfl, .inr ⟨[.slice none 0 0, .slice none 0 0, .slice none 0 0, .slice none 0 0], sh25, hb_4.row, rfl⟩⟩, rfl, rfl, trivial⟩ ?_
    -- end 1
    exact ⟨S, .inr ⟨fun e => g15 e.1, rfl⟩⟩
  ·
    have g15 : rightM m := (by have q := h3; rw [Bool.not_eq_false'] at q; exact pB_iff.1 q)
    refine RL.ev (.move rfl) rfl rfl ?_
    refine RL.ev (.len sl26 rfl) rfl rfl ?_
    refine RL.ev (.as (v' := .bool false) (.bin rfl rfl rfl) (congrArg Value.bool (decide_eq_false (by omega)))) rfl rfl ?_
    refine RL.ev (.pick_f rfl rfl) rfl rfl ?_
    refine RL.ev (.move rfl) rfl rfl ?_
    refine RL.ev (.move rfl) rfl rfl ?_
    refine RL.call rfl ok23 (c_containsOp 24 ok24 [] (fun o => !decide (okP o)) ops pa pc _ rfl w1 (fun x _ w' _ => c_run1 x w') (ho.sub S) (by omega)) rfl rfl ?_
    rintro _ w5 ⟨rfl, s6⟩
    have S := S.trans s6
    have hF := hF.sub s6
    have hb_2 := hb_2.sub s6
    have hb_4 := hb_4.sub s6
    refine RL.ev (.pick_f rfl rfl) rfl rfl ?_
    refine RL.nil (RC.back ?_)
    refine RC.cond rfl (fun h7 => ?_) (fun h7 => ?_)
    ·
      have g23 : ¬ ∀ o ∈ ops, okP o := (fun e => by have q := h7; rw [List.any_eq_true] at q; obtain ⟨x, hx, hq⟩ := q; simp [e x hx] at hq)
      refine RC.seq ?_
      refine RC.region rfl ?_
      refine RL.ev (.as (v' := .agg #[.slice none 0 0, .slice none 0 0, .slice none 0 0, .slice none 0 0]) (.buildS ze25 pl25 rfl rfl) (by kernel_rfl)) rfl rfl ?_
      refine RL.store sh25 rfl rfl rfl hb_4 (by exact Nat.le_of_ble_eq_true rfl) (by rfl) rfl (fun w8 z8 hb_4 a8 => ?_)
      have S := S.upd a8 ge_4
      have hF := hF.updD a8 d_hF_b_4
      have hb_2 := hb_2.upd a8 n_2__4
      have hb_4 : Has w8 b_4 ([.slice none 0 0, .slice none 0 0, .slice none 0 0, .slice none 0 0]) _ := hb_4.now (by kernel_rfl)
      refine RL.ev (.assign rfl) rfl rfl ?_
      refine RL.ev (.assign rfl) rfl rfl ?_
      refine RL.nil (RC.back ?_)
      refine RC.done (rs := [.cell 4 25, .tmp 5, .tmp 6]) (vs := [_, _, _]) rfl rfl ⟨⟨_, rfl, .inr ⟨[.slice none 0 0, .slice none 0 0, .slice none 0 0, .slice none 0 0], sh25, hb_4.row, rfl⟩⟩, rfl, rfl, trivial⟩ ?_
      -- end 2
      exact ⟨S, .inr ⟨fun e => g23 e.2, rfl⟩⟩
    ·
      have g23 : ∀ o ∈ ops, okP o := (fun x hx => by have q := h7; rw [List.any_eq_false] at q; have := q x hx; simpa using this)
      have hok : runOk m ops := ⟨g15, g23⟩
      refine RC.skip (RC.back ?_)
      refine RC.seq ?_
      refine RC.region rfl ?_
      refine RL.ev (.assign rfl) rfl rfl ?_
      refine RL.nil (RC.back ?_)
      refine RC.seq ?_
      refine RC.seq ?_
      refine RC.region rfl ?_
      refine RL.ev (.move rfl) rfl rfl ?_
      refine RL.ev (.len sl26 rfl) rfl rfl ?_
      refine RL.ev (.move rfl) rfl rfl ?_
      refine RL.nil (RC.back ?_)
      refine RC.block ?_
      refine RC.loop (α := Nat × (Mo × List ResT) × Ph × (Nat → Prop) × Option Addr × Nat) (fun x => [(2, .pointer (some ⟨b_2, 0, none⟩)), (4, .pointer (some ⟨b_4, 0, none⟩)), (7, .slice x.2.2.2.2.1 (x.2.1.2.map ResT.cells).length x.2.2.2.2.2), (25, .slice pa ops.length pc), (26, .int .i64 (ops.length : Int)), (27, .int .i64 (x.1 : Int))]) (fun x w9 => (x.1 ≤ ops.length ∧ x.2.1 = runM m (ops.take x.1)) ∧ RunI b_2 b_4 w w9 M x.2.1 x.2.2.1 x.2.2.2.1 x.2.2.2.2.1 x.2.2.2.2.2) (fun x => ops.length - x.1) (0, (m, []), p, M, none, 0) (keep_of (by repeat (first | exact trivial | refine And.intro rfl ?_))) (⟨⟨Nat.zero_le _, rfl⟩, ⟨hb_2, hb_4, hF, hs, Ows.nil _ _ _ _, d_hF_b_2, d_hF_b_4, fun k hk => obNil hk, fun k hk => obNil hk, fun k hk => obNil hk, Up.refl _ _, S⟩⟩) (fun x w9 hJ => ?_)
      obtain ⟨i, cur, p', M', a7, c7⟩ := x; obtain ⟨⟨hi, hcur⟩, ⟨hb_2, hb_4, hF, hs', o7, d1, d2, d3, d4, d5, hup, S⟩⟩ := hJ; simp only [] at hi hcur hb_2 hb_4 hF hs' o7 d1 d2 d3 d4 d5 hup; have szB := S.size; have hrl : cur.2.length = i := (by rw [hcur, runM_len, List.length_take]; omega)
      refine RC.seq ?_
      refine RC.region rfl ?_
      refine RL.ev (.bin rfl rfl rfl) rfl rfl ?_
      refine RL.nil (RC.back ?_)
      refine RC.seq ?_
      refine RC.cond_dec rfl (fun h10 => ?_) (fun h10 => ?_)
      ·
        obtain ⟨o, hx⟩ := getSome (l := ops) (i := i) (by omega)
        have hxm := List.mem_of_getElem? hx
        have hst := runM_step (m := m) hx
        rw [← hcur] at hst
        have hRc : rightM cur.1 := (hcur ▸ rightM_run (hok.take i))
        refine RC.skip (RC.back ?_)
        refine RC.seq ?_
        refine RC.block ?_
        refine RC.seq ?_
        refine RC.region rfl ?_
        refine RL.ev (.indexS sl26 rfl rfl (by omega) (ho.is (i := 0) (by simp only [List.length_map, List.length_cons, List.length_nil]; omega))) rfl rfl ?_
        refine RL.ev (.loadR (o.cells) sh34 rfl ((ho.sub S).rowAt (enc := OpT.cells) (i := i) hx) rfl) rfl rfl ?_
        refine RL.alloc ze34 rfl rfl (fun b_9 w_9 e_9 z_9 hb_9 s_9 => ?_)
        have ge_9 := S.le e_9
        have n_2__9 := hb_2.ne e_9
        have n_4__9 := hb_4.ne e_9
        have d_hF_b_9 := hF.neNew e_9
        have d_o7_b_9 := o7.neNew e_9
        have S := S.trans s_9
        have hb_2 := hb_2.sub s_9
        have hb_4 := hb_4.sub s_9
        have hF := hF.sub s_9
        have o7 := o7.sub s_9
        have szB := Nat.le_trans szB s_9.size
        refine RL.store sh34 rfl rfl rfl hb_9 (by exact Nat.le_of_ble_eq_true rfl) (by rfl) rfl (fun w11 z11 hb_9 a11 => ?_)
        have S := S.upd a11 ge_9
        have hb_2 := hb_2.upd a11 n_2__9
        have hb_4 := hb_4.upd a11 n_4__9
        have hF := hF.updD a11 d_hF_b_9
        have o7 := o7.updD a11 d_o7_b_9
        have szB := Nat.le_trans szB a11.size
        have hb_9 : Has w11 b_9 (o.cells) _ := hb_9.now (by kernel_rfl)
        refine RL.nil (RC.back ?_)
        refine RC.seq ?_
        refine RC.region rfl ?_
        refine RL.ev (.loadR ([.slice p'.a1 cur.1.map.length p'.c1, .slice p'.a2 cur.1.tab.length p'.c2, .slice p'.a3 cur.1.row.length p'.c3, .slice p'.a4 cur.1.heap.length p'.c4]) sh25 rfl hb_2.row rfl) rfl rfl ?_
        refine RL.ev (.loadR (o.cells) sh34 rfl hb_9.row rfl) rfl rfl ?_
        refine RL.call rfl ok26 (c_do p' cur.1 hs' hRc o (g23 o hxm) w11 M' hF) rfl rfl ?_
        rintro _ w12 ⟨s13, p2, M2, rfl, hs2, hF2, hup2⟩
        have d_hF2_b_2 := upNe hup2 d1 hb_2.lt
        have d_hF2_b_4 := upNe hup2 d2 hb_4.lt
        have dd_o7_hF2 := upDD hup2 d5 (fun k hk => (o7.ge k hk).2)
        have d_hF2_b_9 := upNe hup2 d_hF_b_9 hb_9.lt
        have d_o7_hF2 := upDD hup2 d5 (fun k hk => (o7.ge k hk).2)
        have hup2 := hup.trans (hup2.le S.size)
        have S := S.trans s13
        have hb_2 := hb_2.sub s13
        have hb_4 := hb_4.sub s13
        have hF := hF.sub s13
        have o7 := o7.sub s13
        have szB := Nat.le_trans szB s13.size
        have hb_9 := hb_9.sub s13
        refine RL.ev (.move rfl) rfl rfl ?_
        refine RL.ev (.extract rfl rfl) rfl rfl ?_
        refine RL.ev (.extract rfl rfl) rfl rfl ?_
        refine RL.alloc ze25 rfl rfl (fun b_10 w_10 e_10 z_10 hb_10 s_10 => ?_)
        have ge_10 := S.le e_10
        have n_2__10 := hb_2.ne e_10
        have n_4__10 := hb_4.ne e_10
        have n_9__10 := hb_9.ne e_10
        have d_o7_b_10 := o7.neNew e_10
        have d_hF2_b_10 := hF2.neNew e_10
        have S := S.trans s_10
        have hb_2 := hb_2.sub s_10
        have hb_4 := hb_4.sub s_10
        have o7 := o7.sub s_10
        have szB := Nat.le_trans szB s_10.size
        have hb_9 := hb_9.sub s_10
        have hF2 := hF2.sub s_10
        refine RL.alloc ze39 rfl rfl (fun b_11 w_11 e_11 z_11 hb_11 s_11 => ?_)
        have ge_11 := S.le e_11
        have n_2__11 := hb_2.ne e_11
        have n_4__11 := hb_4.ne e_11
        have n_9__11 := hb_9.ne e_11
        have n_10__11 := hb_10.ne e_11
        have d_o7_b_11 := o7.neNew e_11
        have d_hF2_b_11 := hF2.neNew e_11
        have S := S.trans s_11
        have hb_2 := hb_2.sub s_11
        have hb_4 := hb_4.sub s_11
        have o7 := o7.sub s_11
        have szB := Nat.le_trans szB s_11.size
        have hb_9 := hb_9.sub s_11
        have hF2 := hF2.sub s_11
        have hb_10 := hb_10.sub s_11
        refine RL.store sh25 rfl rfl rfl hb_10 (by exact Nat.le_of_ble_eq_true rfl) (by rfl) rfl (fun w14 z14 hb_10 a14 => ?_)
        have S := S.upd a14 ge_10
        have hb_2 := hb_2.upd a14 n_2__10
        have hb_4 := hb_4.upd a14 n_4__10
        have o7 := o7.updD a14 d_o7_b_10
        have szB := Nat.le_trans szB a14.size
        have hb_9 := hb_9.upd a14 n_9__10
        have hF2 := hF2.updD a14 d_hF2_b_10
        have hb_11 := hb_11.upd a14 n_10__11.symm
        have hb_10 : Has w14 b_10 ([.slice p2.a1 (doM cur.1 o).1.map.length p2.c1, .slice p2.a2 (doM cur.1 o).1.tab.length p2.c2, .slice p2.a3 (doM cur.1 o).1.row.length p2.c3, .slice p2.a4 (doM cur.1 o).1.heap.length p2.c4]) _ := hb_10.now (by kernel_rfl)
        refine RL.store sh39 rfl rfl rfl hb_11 (by exact Nat.le_of_ble_eq_true rfl) (by rfl) rfl (fun w15 z15 hb_11 a15 => ?_)
        have S := S.upd a15 ge_11
        have hb_2 := hb_2.upd a15 n_2__11
        have hb_4 := hb_4.upd a15 n_4__11
        have o7 := o7.updD a15 d_o7_b_11
        have szB := Nat.le_trans szB a15.size
        have hb_9 := hb_9.upd a15 n_9__11
        have hF2 := hF2.updD a15 d_hF2_b_11
        have hb_10 := hb_10.upd a15 n_10__11
        have hb_11 : Has w15 b_11 ((doM cur.1 o).2.cells) _ := hb_11.now (by kernel_rfl)
        refine RL.nil (RC.back ?_)
        refine RC.drawD (fun k => k = b_2 ∨ ob (.slice a7 (cur.2.map ResT.cells).length c7) = some k) [5, 4] w15.heap.size 7 rfl rfl mxo (fun w16 s17 => ?_)
        have hNN : ∀ k, ((k = b_2 ∨ ob (.slice a7 (cur.2.map ResT.cells).length c7) = some k) ∨ w15.heap.size ≤ k) → w.heap.size ≤ k := fun k e => e.elim (fun e => e.elim (fun e => e ▸ ge_2) (fun e => Nat.le_trans (by omega) (o7.ge k e).1)) (fun e => Nat.le_trans S.size e)
        have ent_S := S.size
        have hN0 : ∀ k, w15.heap.size ≤ k → w.heap.size ≤ k := fun k e => Nat.le_trans S.size e
        have ltD_b_2 := hb_2.lt
        have ltD_b_4 := hb_4.lt
        have ltD_o7 := fun k hk => (o7.ge k hk).2
        have ltD_b_9 := hb_9.lt
        have ltD_hF2 := fun k hk => (hF2.ge k hk).2
        have ltD_b_10 := hb_10.lt
        have ltD_b_11 := hb_11.lt
        have szD := Nat.le_refl w15.heap.size
        have S := S.trans s17
        have hb_2 := hb_2.sub s17
        have hb_4 := hb_4.sub s17
        have o7 := o7.sub s17
        have szB := Nat.le_trans szB s17.size
        have hb_9 := hb_9.sub s17
        have hF2 := hF2.sub s17
        have hb_10 := hb_10.sub s17
        have hb_11 := hb_11.sub s17
        have szD := Nat.le_trans szD s17.size
        refine RD.take 0 rfl (by kernel_rfl) (by kernel_rfl) (by kernel_rfl) (fun w' s' => .loadR ([.slice p2.a1 (doM cur.1 o).1.map.length p2.c1, .slice p2.a2 (doM cur.1 o).1.tab.length p2.c2, .slice p2.a3 (doM cur.1 o).1.row.length p2.c3, .slice p2.a4 (doM cur.1 o).1.heap.length p2.c4]) sh25 rfl (hb_10.step s' (fun e => e.elim (fun e => e.elim (fun e => n_2__10.symm e) (fun e => d_o7_b_10 _ e rfl)) (fun e => Nat.not_le.2 ltD_b_10 e))).row rfl) rfl rfl ?_
        refine RD.take 1 rfl (by kernel_rfl) (by kernel_rfl) (by kernel_rfl) (fun w' s' => .move rfl) rfl rfl ?_
        refine RD.take 2 rfl (by kernel_rfl) (by kernel_rfl) (by kernel_rfl) (fun w' s' => .loadR ((doM cur.1 o).2.cells) sh39 rfl (hb_11.step s' (fun e => e.elim (fun e => e.elim (fun e => n_2__11.symm e) (fun e => d_o7_b_11 _ e rfl)) (fun e => Nat.not_le.2 ltD_b_11 e))).row rfl) rfl rfl ?_
        refine RD.all [3] (by kernel_rfl) rfl (RDs.cons rfl ?_ (RDs.nil))
        refine RL.buildSlice1 sl28 _ ze39 rfl rfl rfl rfl rfl rfl rfl (fun b_40 w_40 e_40 z_40 hb_40 s_40 => ?_)
        have fr_b_40 : w15.heap.size ≤ b_40 := by rw [e_40]; exact szD
        have ge_40 := S.le e_40
        have n_2__40 := hb_2.ne e_40
        have n_4__40 := hb_4.ne e_40
        have n_9__40 := hb_9.ne e_40
        have n_10__40 := hb_10.ne e_40
        have n_11__40 := hb_11.ne e_40
        have d_o7_b_40 := o7.neNew e_40
        have d_hF2_b_40 := hF2.neNew e_40
        have S := S.trans s_40
        have hb_2 := hb_2.sub s_40
        have hb_4 := hb_4.sub s_40
        have o7 := o7.sub s_40
        have szB := Nat.le_trans szB s_40.size
        have hb_9 := hb_9.sub s_40
        have hF2 := hF2.sub s_40
        have hb_10 := hb_10.sub s_40
        have hb_11 := hb_11.sub s_40
        have szD := Nat.le_trans szD s_40.size
        refine RD.back s_40.agr ?_
        refine RD.all [4] (by kernel_rfl) rfl (RDs.cons rfl ?_ (RDs.nil))
        have sz_41 := S.size
        have ltb_2_41 := hb_2.lt
        have ltb_4_41 := hb_4.lt
        have ltb_9_41 := hb_9.lt
        have ltb_10_41 := hb_10.lt
        have ltb_11_41 := hb_11.lt
        have ltb_40_41 := hb_40.lt
        refine RL.append2 (base := w.heap.size) (rows := cur.2.map ResT.cells) (news := [_]) sl28 ze39 rfl rfl rfl rfl (.inl o7) (Has.slOne hb_40) rfl (by intro r hr; rw [List.mem_singleton] at hr; subst hr; rfl) rfl (by (try simp only [List.length_map, List.length_nil, List.length_append, List.length_cons]); omega) (by (try simp only [List.length_map, List.length_nil, List.length_append, List.length_cons]); omega) (by omega) rfl rfl (fun v_41 w_41 hc_41 ho_41 ag_41 ob_41 => ?_)
        have o41 := ho_41 (.inl (by simp))
        rw [show _ ++ [_] = ((cur.2 ++ [(doM cur.1 o).2]).map ResT.cells) from by rw [List.map_append]; rfl] at o41
        have d_o41_b_2 := obNe ob_41 d3 hb_2.lt
        have d_o41_b_4 := obNe ob_41 d4 hb_4.lt
        have d_o41_b_9 := obNe ob_41 d_o7_b_9 hb_9.lt
        have dd_o41_hF2 := obDF ob_41 d_o7_hF2 (fun k hk => (hF2.ge k hk).2)
        have d_o41_b_10 := obNe ob_41 d_o7_b_10 hb_10.lt
        have d_o41_b_11 := obNe ob_41 d_o7_b_11 hb_11.lt
        have S := S.agrN ag_41 (fun k e => Nat.le_trans (by omega) e.2)
        have hb_2 := hb_2.step ag_41 (fun e => d3 _ e.1 rfl)
        have hb_4 := hb_4.step ag_41 (fun e => d4 _ e.1 rfl)
        have szB := Nat.le_trans szB ag_41.size
        have hb_9 := hb_9.step ag_41 (fun e => d_o7_b_9 _ e.1 rfl)
        have hF2 := hF2.step ag_41 (fun k hk e => d_o7_hF2 k e.1 hk)
        have hb_10 := hb_10.step ag_41 (fun e => d_o7_b_10 _ e.1 rfl)
        have hb_11 := hb_11.step ag_41 (fun e => d_o7_b_11 _ e.1 rfl)
        have szD := Nat.le_trans szD ag_41.size
        obtain ⟨a_41, c_41, rfl, k_41⟩ := o41.form
        refine RD.backW rfl (ag_41.mono fun k _ e => .inl (.inr (e.1))) ?_
        refine RD.all [5] (by kernel_rfl) rfl (RDs.cons rfl ?_ (RDs.nil))
        refine RL.store sh25 rfl rfl rfl hb_2 (by exact Nat.le_of_ble_eq_true rfl) (by rfl) rfl (fun w18 z18 hb_2 a18 => ?_)
        have S := S.upd a18 ge_2
        have hb_4 := hb_4.upd a18 n_2__4.symm
        have szB := Nat.le_trans szB a18.size
        have hb_9 := hb_9.upd a18 n_2__9.symm
        have hF2 := hF2.updD a18 d_hF2_b_2
        have hb_10 := hb_10.upd a18 n_2__10.symm
        have hb_11 := hb_11.upd a18 n_2__11.symm
        have szD := Nat.le_trans szD a18.size
        have o41 := o41.updD a18 d_o41_b_2
        have hb_2 : Has w18 b_2 ([.slice p2.a1 (doM cur.1 o).1.map.length p2.c1, .slice p2.a2 (doM cur.1 o).1.tab.length p2.c2, .slice p2.a3 (doM cur.1 o).1.row.length p2.c3, .slice p2.a4 (doM cur.1 o).1.heap.length p2.c4]) _ := hb_2.now (by kernel_rfl)
        refine RD.backW rfl (a18.mono fun k _ e => e ▸ (.inl (.inl rfl))) ?_
        refine RD.take 6 rfl (by kernel_rfl) (by kernel_rfl) (by kernel_rfl) (fun w' s' => .assign rfl) rfl rfl ?_
        refine RD.done (by kernel_rfl) (RC.back ?_)
        refine RC.region rfl ?_
        refine RL.ev (.as (.bin rfl rfl rfl) (wi64 (y := ((i + 1 : Nat) : Int)) (by omega) (by omega))) rfl rfl ?_
        refine RL.ev (.move rfl) rfl rfl ?_
        exact RL.nil (fun a ka => ⟨(i + 1, ((doM cur.1 o).1, cur.2 ++ [(doM cur.1 o).2]), p2, M2, a_41, c_41), ⟨⟨by omega, by rw [hst]⟩, ⟨hb_2, hb_4, hF2, hs2, o41, d_hF2_b_2, d_hF2_b_4, d_o41_b_2, d_o41_b_4, dd_o41_hF2, hup2, S⟩⟩, by omega, ka.keep (keep_of (by repeat (first | exact trivial | refine And.intro rfl ?_)))⟩)
      ·
        obtain rfl : i = ops.length := (by omega)
        rw [List.take_length] at hcur
        refine RC.exit rfl (RC.back ?_)
        refine RC.seq ?_
        refine RC.region rfl ?_
        refine RL.ev (.loadR ([.slice p'.a1 cur.1.map.length p'.c1, .slice p'.a2 cur.1.tab.length p'.c2, .slice p'.a3 cur.1.row.length p'.c3, .slice p'.a4 cur.1.heap.length p'.c4]) sh25 rfl hb_2.row rfl) rfl rfl ?_
        refine RL.ev (.move rfl) rfl rfl ?_
        refine RL.store sh25 rfl rfl rfl hb_4 (by exact Nat.le_of_ble_eq_true rfl) (by rfl) rfl (fun w19 z19 hb_4 a19 => ?_)
        have S := S.upd a19 ge_4
        have hb_2 := hb_2.upd a19 n_2__4
        have hF := hF.updD a19 d2
        have o7 := o7.updD a19 d4
        have szB := Nat.le_trans szB a19.size
        have hb_4 : Has w19 b_4 ([.slice p'.a1 cur.1.map.length p'.c1, .slice p'.a2 cur.1.tab.length p'.c2, .slice p'.a3 cur.1.row.length p'.c3, .slice p'.a4 cur.1.heap.length p'.c4]) _ := hb_4.now (by kernel_rfl)
        refine RL.ev (.assign rfl) rfl rfl ?_
        refine RL.ev (.assign rfl) rfl rfl ?_
        refine RL.nil (RC.back ?_)
        refine RC.done (rs := [.cell 4 25, .tmp 5, .tmp 6]) (vs := [_, _, _]) rfl rfl ⟨⟨_, rfl, .inr ⟨[.slice p'.a1 cur.1.map.length p'.c1, .slice p'.a2 cur.1.tab.length p'.c2, .slice p'.a3 cur.1.row.length p'.c3, .slice p'.a4 cur.1.heap.length p'.c4], sh25, hb_4.row, rfl⟩⟩, rfl, rfl, trivial⟩ ?_
        -- end 3
        exact ⟨S, .inl ⟨hok, p', M', a7, c7, by rw [← hcur]; rfl, by rw [← hcur]; exact hs', by rw [← hcur]; exact hF, hup, by rw [← hcur]; exact o7, by rw [← hcur]; exact d5⟩⟩
end Go.Proofs.Ytjafbffehmombaa
set_option linter.unusedVariables false
set_option linter.unusedSimpArgs false
namespace Go.Proofs.Ytjafbffehmombaa
open Go Go.XL
theorem fit_it (r : List Value) (h : fitsR [some .i64, some .i64] r) : ∃ x : It, r = x.cells ∧ x.ok := by
  obtain ⟨_, _, rfl, h0, h⟩ := fitsR_cons h
  obtain ⟨_, _, rfl, h1, h⟩ := fitsR_cons h
  obtain rfl := fitsR_nil h
  obtain ⟨a, rfl, g⟩ := fitI h0
  obtain ⟨b, rfl, k⟩ := fitI h1
  exact ⟨⟨a, b⟩, rfl, g, k⟩
theorem fit_op (r : List Value) (h : fitsR [some .i64, some .i64, some .i64, some .i64] r) : ∃ x : OpT, r = x.cells ∧ x.ok := by
  obtain ⟨_, _, rfl, h0, h⟩ := fitsR_cons h
  obtain ⟨_, _, rfl, h1, h⟩ := fitsR_cons h
  obtain ⟨_, _, rfl, h2, h⟩ := fitsR_cons h
  obtain ⟨_, _, rfl, h3, h⟩ := fitsR_cons h
  obtain rfl := fitsR_nil h
  obtain ⟨a, rfl, g⟩ := fitI h0
  obtain ⟨b, rfl, k⟩ := fitI h1
  obtain ⟨c, rfl, k2⟩ := fitI h2
  obtain ⟨d, rfl, k3⟩ := fitI h3
  exact ⟨⟨a, b, c, d⟩, rfl, g, k, k2, k3⟩
section
variable {H : Type} {enc : TypeId × Value → H} {W : World} {base : Nat} {sp : Nat → Bool} {held : Bool} {v : Value} {d : DataW H} {ps : List MemPlace} {r : Reach} {b : Nat}
set_option maxRecDepth 100000 in
theorem open_op (hok : Value.okWide Try.prog W r b 34 v) (h : DataW.Trod enc Try.prog W base sp held 34 v d ps) : ∃ x : OpT, v = .agg x.cells.toArray ∧ x.ok := by
  obtain ⟨cs, rfl, hf⟩ := open_flat sh34 fk34 rfl hok h
  obtain ⟨x, rfl, hx⟩ := fit_op cs hf
  exact ⟨x, rfl, hx⟩
set_option maxRecDepth 100000 in
theorem open_mo (hok : Value.okWide Try.prog W r b 25 v) (h : DataW.Trod enc Try.prog W base sp held 25 v d ps) : ∃ (p : Ph) (m : Mo), v = moV p m ∧ (m.map.length ≤ p.c1 ∧ m.tab.length ≤ p.c2 ∧ m.row.length ≤ p.c3 ∧ m.heap.length ≤ p.c4) ∧ MoR W p m := by
  obtain ⟨n, hn⟩ := h
  simp only [Value.okWide, Try.underlying25] at hok
  obtain ⟨cs, rfl, hc, _⟩ := hok
  obtain ⟨xs, n', rfl, _, hlen, hxl, hf⟩ := DataW.trod_struct Try.underlying25 hn
  rw [cellsOf_shape sh25] at hlen
  have hq : (Value.agg cs).cells.toList = cs.toList := rfl
  rw [hq] at hlen hf
  obtain ⟨c0, c1, c2, c3, hcs⟩ : ∃ c0 c1 c2 c3, cs.toList = [c0, c1, c2, c3] := by
    match hq : cs.toList, hlen with
    | [a, b, c, d], _ => exact ⟨a, b, c, d, rfl⟩
  rw [hcs] at hf
  have f0 := hf 0 (fieldAt Try.prog 25 0) (by kernel_rfl)
  have f1 := hf 1 (fieldAt Try.prog 25 1) (by kernel_rfl)
  have f2 := hf 2 (fieldAt Try.prog 25 2) (by kernel_rfl)
  have f3 := hf 3 (fieldAt Try.prog 25 3) (by kernel_rfl)
  obtain ⟨x0, hx0⟩ : ∃ x, xs[0]? = some x := ⟨_, List.getElem?_eq_getElem (by rw [hxl]; decide +kernel)⟩
  obtain ⟨x1, hx1⟩ : ∃ x, xs[1]? = some x := ⟨_, List.getElem?_eq_getElem (by rw [hxl]; decide +kernel)⟩
  obtain ⟨x2, hx2⟩ : ∃ x, xs[2]? = some x := ⟨_, List.getElem?_eq_getElem (by rw [hxl]; decide +kernel)⟩
  obtain ⟨x3, hx3⟩ : ∃ x, xs[3]? = some x := ⟨_, List.getElem?_eq_getElem (by rw [hxl]; decide +kernel)⟩
  rw [hx0, show (fieldAt Try.prog 25 0).offset = 0 by kernel_rfl, show (fieldAt Try.prog 25 0).type = 22 by kernel_rfl, cellsOf_shape sh22] at f0
  rw [hx1, show (fieldAt Try.prog 25 1).offset = 1 by kernel_rfl, show (fieldAt Try.prog 25 1).type = 22 by kernel_rfl, cellsOf_shape sh22] at f1
  rw [hx2, show (fieldAt Try.prog 25 2).offset = 2 by kernel_rfl, show (fieldAt Try.prog 25 2).type = 23 by kernel_rfl, cellsOf_shape sh23] at f2
  rw [hx3, show (fieldAt Try.prog 25 3).offset = 3 by kernel_rfl, show (fieldAt Try.prog 25 3).type = 22 by kernel_rfl, cellsOf_shape sh22] at f3
  obtain ⟨a1, r1, k1, e1, g1, _, s1, t1⟩ := trod_sl sl22 fk45 rfl f0
  obtain ⟨a2, r2, k2, e2, g2, _, s2, t2⟩ := trod_sl sl22 fk45 rfl f1
  obtain ⟨a3, r3, k3, e3, g3, _, s3, t3⟩ := trod_sl sl23 (ks := [some .i64]) rfl rfl f2
  obtain ⟨a4, r4, k4, e4, g4, _, s4, t4⟩ := trod_sl sl22 fk45 rfl f3
  obtain ⟨l1, rfl, _⟩ := rows_of (enc := It.cells) (ok := It.ok) r1 (fun r hr => fit_it r (t1 r hr))
  obtain ⟨l2, rfl, _⟩ := rows_of (enc := It.cells) (ok := It.ok) r2 (fun r hr => fit_it r (t2 r hr))
  obtain ⟨l3, rfl, _⟩ := rows_of (enc := fun x => [i6 x]) (ok := I64) r3 (fun r hr => fit_int r (t3 r hr))
  obtain ⟨l4, rfl, _⟩ := rows_of (enc := It.cells) (ok := It.ok) r4 (fun r hr => fit_it r (t4 r hr))
  simp only [List.length_map] at e1 e2 e3 e4 g1 g2 g3 g4
  simp only [List.drop, List.take, List.cons.injEq, and_true] at e1 e2 e3 e4
  subst e1 e2 e3 e4
  refine ⟨⟨a1, k1, a2, k2, a3, k3, a4, k4⟩, ⟨l1, l2, l3, l4⟩, ?_, ⟨g1, g2, g3, g4⟩, ⟨s1, s2, s3, s4⟩⟩
  show Value.agg cs = Value.agg _
  congr 1
  rw [← Array.toArray_toList (xs := cs), hcs]
  rfl
end
def fewM (m : Mo) : Mo := ⟨m.map.take 205, m.tab.take 205, m.row.take 205, m.heap.take 205⟩
theorem fewM_R {w : World} {p : Ph} {m : Mo} (h : MoR w p m) : MoR w p (fewM m) :=
  ⟨by rw [fewM, List.map_take]; exact h.h1.take _, by rw [fewM, List.map_take]; exact h.h2.take _, by rw [fewM, List.map_take]; exact h.h3.take _, by rw [fewM, List.map_take]; exact h.h4.take _⟩
theorem fewM_S {p : Ph} {m : Mo} (h : m.map.length ≤ p.c1 ∧ m.tab.length ≤ p.c2 ∧ m.row.length ≤ p.c3 ∧ m.heap.length ≤ p.c4) : MoS p (fewM m) := by
  constructor <;> simp only [fewM, List.length_take] <;> omega
theorem fewM_l (m : Mo) : (fewM m).map.length ≤ 205 ∧ (fewM m).tab.length ≤ 205 ∧ (fewM m).row.length ≤ 205 ∧ (fewM m).heap.length ≤ 205 := by
  simp only [fewM, List.length_take]; omega
theorem c_few14 (p : Ph) (m : Mo) (h : m.map.length ≤ p.c1 ∧ m.tab.length ≤ p.c2 ∧ m.row.length ≤ p.c3 ∧ m.heap.length ≤ p.c4) (w : World) :
    FC Try.prog 12 [moV p m] w (Val (moV p (fewM m)) w) := by
  refine FC.intro Try.func12 rfl Try.ntmps12 rfl ?_
  have S := Sub.refl w
  refine RC.seq ?_
  refine RC.region rfl ?_
  refine RL.box rfl rfl rfl (fun b_1 w_1 e_1 z_1 hb_1 s_1 => ?_)
  have ge_1 := S.le e_1
  have S := S.trans s_1
  have hb_1 : Has w_1 b_1 ([.slice p.a1 m.map.length p.c1, .slice p.a2 m.tab.length p.c2, .slice p.a3 m.row.length p.c3, .slice p.a4 m.heap.length p.c4]) _ := hb_1
  refine RL.alloc ze25 rfl rfl (fun b_2 w_2 e_2 z_2 hb_2 s_2 => ?_)
  have ge_2 := S.le e_2
  have n_1__2 := hb_1.ne e_2
  have S := S.trans s_2
  have hb_1 := hb_1.sub s_2
  refine RL.nil (RC.back ?_)
  refine RC.seq ?_
  refine RC.drawD (fun k => k = b_1) [29, 31, 33, 35] w_2.heap.size 36 rfl rfl mxo (fun w1 s2 => ?_)
  have hNN : ∀ k, ((k = b_1) ∨ w_2.heap.size ≤ k) → w.heap.size ≤ k := fun k e => e.elim (fun e => e ▸ ge_1) (fun e => Nat.le_trans S.size e)
  have ent_S := S.size
  have hN0 : ∀ k, w_2.heap.size ≤ k → w.heap.size ≤ k := fun k e => Nat.le_trans S.size e
  have ltD_b_1 := hb_1.lt
  have ltD_b_2 := hb_2.lt
  have szD := Nat.le_refl w_2.heap.size
  have S := S.trans s2
  have hb_1 := hb_1.sub s2
  have hb_2 := hb_2.sub s2
  have szD := Nat.le_trans szD s2.size
  refine RD.take 0 rfl (by kernel_rfl) (by kernel_rfl) (by kernel_rfl) (fun w' s' => .field0 fo25_0 rfl) rfl rfl ?_
  refine RD.takeL 1 rfl (by kernel_rfl) (by kernel_rfl) (by kernel_rfl) (by kernel_rfl) (fun w' s' => .load1 sh22 rfl ((hb_1.step s' (fun e => Nat.not_le.2 ltD_b_1 e)).cell rfl)) rfl rfl ?_
  refine RD.take 2 rfl (by kernel_rfl) (by kernel_rfl) (by kernel_rfl) (fun w' s' => .field0 fo25_0 rfl) rfl rfl ?_
  refine RD.takeL 3 rfl (by kernel_rfl) (by kernel_rfl) (by kernel_rfl) (by kernel_rfl) (fun w' s' => .load1 sh22 rfl ((hb_1.step s' (fun e => Nat.not_le.2 ltD_b_1 e)).cell rfl)) rfl rfl ?_
  refine RD.take 4 rfl (by kernel_rfl) (by kernel_rfl) (by kernel_rfl) (fun w' s' => .len sl22 rfl) rfl rfl ?_
  refine RD.take 5 rfl (by kernel_rfl) (by kernel_rfl) (by kernel_rfl) (fun w' s' => .min2 rfl rfl) rfl rfl ?_
  refine RD.take 6 rfl (by kernel_rfl) (by kernel_rfl) (by kernel_rfl) (fun w' s' => .as (v' := .slice p.a1 (m.map.take 205).length p.c1) (.sliceHi sl22 rfl rfl (by split <;> omega)) (by rw [← few_len]; rfl)) rfl rfl ?_
  refine RD.take 7 rfl (by kernel_rfl) (by kernel_rfl) (by kernel_rfl) (fun w' s' => .field0 fo25_1 rfl) rfl rfl ?_
  refine RD.takeL 8 rfl (by kernel_rfl) (by kernel_rfl) (by kernel_rfl) (by kernel_rfl) (fun w' s' => .load1 sh22 rfl ((hb_1.step s' (fun e => Nat.not_le.2 ltD_b_1 e)).cell rfl)) rfl rfl ?_
  refine RD.take 9 rfl (by kernel_rfl) (by kernel_rfl) (by kernel_rfl) (fun w' s' => .field0 fo25_1 rfl) rfl rfl ?_
  refine RD.takeL 10 rfl (by kernel_rfl) (by kernel_rfl) (by kernel_rfl) (by kernel_rfl) (fun w' s' => .load1 sh22 rfl ((hb_1.step s' (fun e => Nat.not_le.2 ltD_b_1 e)).cell rfl)) rfl rfl ?_
  refine RD.take 11 rfl (by kernel_rfl) (by kernel_rfl) (by kernel_rfl) (fun w' s' => .len sl22 rfl) rfl rfl ?_
  refine RD.take 12 rfl (by kernel_rfl) (by kernel_rfl) (by kernel_rfl) (fun w' s' => .min2 rfl rfl) rfl rfl ?_
  refine RD.take 13 rfl (by kernel_rfl) (by kernel_rfl) (by kernel_rfl) (fun w' s' => .as (v' := .slice p.a2 (m.tab.take 205).length p.c2) (.sliceHi sl22 rfl rfl (by split <;> omega)) (by rw [← few_len]; rfl)) rfl rfl ?_
  refine RD.take 14 rfl (by kernel_rfl) (by kernel_rfl) (by kernel_rfl) (fun w' s' => .field0 fo25_2 rfl) rfl rfl ?_
  refine RD.takeL 15 rfl (by kernel_rfl) (by kernel_rfl) (by kernel_rfl) (by kernel_rfl) (fun w' s' => .load1 sh23 rfl ((hb_1.step s' (fun e => Nat.not_le.2 ltD_b_1 e)).cell rfl)) rfl rfl ?_
  refine RD.take 16 rfl (by kernel_rfl) (by kernel_rfl) (by kernel_rfl) (fun w' s' => .field0 fo25_2 rfl) rfl rfl ?_
  refine RD.takeL 17 rfl (by kernel_rfl) (by kernel_rfl) (by kernel_rfl) (by kernel_rfl) (fun w' s' => .load1 sh23 rfl ((hb_1.step s' (fun e => Nat.not_le.2 ltD_b_1 e)).cell rfl)) rfl rfl ?_
  refine RD.take 18 rfl (by kernel_rfl) (by kernel_rfl) (by kernel_rfl) (fun w' s' => .len sl23 rfl) rfl rfl ?_
  refine RD.take 19 rfl (by kernel_rfl) (by kernel_rfl) (by kernel_rfl) (fun w' s' => .min2 rfl rfl) rfl rfl ?_
  refine RD.take 20 rfl (by kernel_rfl) (by kernel_rfl) (by kernel_rfl) (fun w' s' => .as (v' := .slice p.a3 (m.row.take 205).length p.c3) (.sliceHi sl23 rfl rfl (by split <;> omega)) (by rw [← few_len]; rfl)) rfl rfl ?_
  refine RD.take 21 rfl (by kernel_rfl) (by kernel_rfl) (by kernel_rfl) (fun w' s' => .field0 fo25_3 rfl) rfl rfl ?_
  refine RD.takeL 22 rfl (by kernel_rfl) (by kernel_rfl) (by kernel_rfl) (by kernel_rfl) (fun w' s' => .load1 sh22 rfl ((hb_1.step s' (fun e => Nat.not_le.2 ltD_b_1 e)).cell rfl)) rfl rfl ?_
  refine RD.take 23 rfl (by kernel_rfl) (by kernel_rfl) (by kernel_rfl) (fun w' s' => .field0 fo25_3 rfl) rfl rfl ?_
  refine RD.takeL 24 rfl (by kernel_rfl) (by kernel_rfl) (by kernel_rfl) (by kernel_rfl) (fun w' s' => .load1 sh22 rfl ((hb_1.step s' (fun e => Nat.not_le.2 ltD_b_1 e)).cell rfl)) rfl rfl ?_
  refine RD.take 25 rfl (by kernel_rfl) (by kernel_rfl) (by kernel_rfl) (fun w' s' => .len sl22 rfl) rfl rfl ?_
  refine RD.take 26 rfl (by kernel_rfl) (by kernel_rfl) (by kernel_rfl) (fun w' s' => .min2 rfl rfl) rfl rfl ?_
  refine RD.take 27 rfl (by kernel_rfl) (by kernel_rfl) (by kernel_rfl) (fun w' s' => .as (v' := .slice p.a4 (m.heap.take 205).length p.c4) (.sliceHi sl22 rfl rfl (by split <;> omega)) (by rw [← few_len]; rfl)) rfl rfl ?_
  refine RD.take 28 rfl (by kernel_rfl) (by kernel_rfl) (by kernel_rfl) (fun w' s' => .field0 fo25_0 rfl) rfl rfl ?_
  refine RD.all [29] (by kernel_rfl) rfl (RDs.cons rfl ?_ (RDs.nil))
  refine RL.store sh22 rfl rfl rfl hb_1 (by exact Nat.le_of_ble_eq_true rfl) (by rfl) rfl (fun w3 z3 hb_1 a3 => ?_)
  have S := S.upd a3 ge_1
  have hb_2 := hb_2.upd a3 n_1__2.symm
  have szD := Nat.le_trans szD a3.size
  refine RD.backW rfl (a3.mono fun k _ e => e ▸ (.inl (rfl))) ?_
  refine RD.take 30 rfl (by kernel_rfl) (by kernel_rfl) (by kernel_rfl) (fun w' s' => .field0 fo25_1 rfl) rfl rfl ?_
  refine RD.all [31] (by kernel_rfl) rfl (RDs.cons rfl ?_ (RDs.nil))
  refine RL.store sh22 rfl rfl rfl hb_1 (by exact Nat.le_of_ble_eq_true rfl) (by rfl) rfl (fun w4 z4 hb_1 a4 => ?_)
  have S := S.upd a4 ge_1
  have hb_2 := hb_2.upd a4 n_1__2.symm
  have szD := Nat.le_trans szD a4.size
  refine RD.backW rfl (a4.mono fun k _ e => e ▸ (.inl (rfl))) ?_
  refine RD.take 32 rfl (by kernel_rfl) (by kernel_rfl) (by kernel_rfl) (fun w' s' => .field0 fo25_2 rfl) rfl rfl ?_
  refine RD.all [33] (by kernel_rfl) rfl (RDs.cons rfl ?_ (RDs.nil))
  refine RL.store sh23 rfl rfl rfl hb_1 (by exact Nat.le_of_ble_eq_true rfl) (by rfl) rfl (fun w5 z5 hb_1 a5 => ?_)
  have S := S.upd a5 ge_1
  have hb_2 := hb_2.upd a5 n_1__2.symm
  have szD := Nat.le_trans szD a5.size
  refine RD.backW rfl (a5.mono fun k _ e => e ▸ (.inl (rfl))) ?_
  refine RD.take 34 rfl (by kernel_rfl) (by kernel_rfl) (by kernel_rfl) (fun w' s' => .field0 fo25_3 rfl) rfl rfl ?_
  refine RD.all [35] (by kernel_rfl) rfl (RDs.cons rfl ?_ (RDs.nil))
  refine RL.store sh22 rfl rfl rfl hb_1 (by exact Nat.le_of_ble_eq_true rfl) (by rfl) rfl (fun w6 z6 hb_1 a6 => ?_)
  have S := S.upd a6 ge_1
  have hb_2 := hb_2.upd a6 n_1__2.symm
  have szD := Nat.le_trans szD a6.size
  refine RD.backW rfl (a6.mono fun k _ e => e ▸ (.inl (rfl))) ?_
  refine RD.done (by kernel_rfl) (RC.back ?_)
  refine RC.seq ?_
  refine RC.region rfl ?_
  refine RL.ev (.loadR ([.slice p.a1 (m.map.take 205).length p.c1, .slice p.a2 (m.tab.take 205).length p.c2, .slice p.a3 (m.row.take 205).length p.c3, .slice p.a4 (m.heap.take 205).length p.c4]) sh25 rfl hb_1.row rfl) rfl rfl ?_
  refine RL.store sh25 rfl rfl rfl hb_2 (by exact Nat.le_of_ble_eq_true rfl) (by rfl) rfl (fun w7 z7 hb_2 a7 => ?_)
  have S := S.upd a7 ge_2
  have hb_1 := hb_1.upd a7 n_1__2
  have hb_2 : Has w7 b_2 ([.slice p.a1 (m.map.take 205).length p.c1, .slice p.a2 (m.tab.take 205).length p.c2, .slice p.a3 (m.row.take 205).length p.c3, .slice p.a4 (m.heap.take 205).length p.c4]) _ := hb_2.now (by kernel_rfl)
  refine RL.nil (RC.back ?_)
  refine RC.done (rs := [.cell 2 25]) (vs := [_]) rfl rfl ⟨⟨_, rfl, .inr ⟨[.slice p.a1 (m.map.take 205).length p.c1, .slice p.a2 (m.tab.take 205).length p.c2, .slice p.a3 (m.row.take 205).length p.c3, .slice p.a4 (m.heap.take 205).length p.c4], sh25, hb_2.row, rfl⟩⟩, trivial⟩ ?_
  -- end 1
  exact ⟨rfl, S⟩
def alOps : List OpT := [⟨1, 2, 5, 7⟩, ⟨1, 2, 5, 8⟩]
theorem m0_right : rightM m0 := by
  rw [rightM_iff]
  refine ⟨fun i x y h => by simp [m0] at h, fun x h => by simp [m0] at h, ⟨fun x h => by simp [m0] at h, by decide⟩, ⟨fun x h => by simp [m0] at h, by decide⟩, ⟨fun x h => by simp [m0] at h, by decide⟩, by decide, List.Pairwise.nil, List.Pairwise.nil⟩
theorem c_alive14 (w : World) : FC Try.prog 16 [] w (Val (.bool true) w) := by
  have hok : runOk m0 alOps := ⟨m0_right, by decide⟩
  have h0 := m0_F (fun _ => False) (w := w) (fun k h => h.elim)
  refine FC.intro Try.func16 rfl Try.ntmps16 rfl ?_
  have S := Sub.refl w
  refine RC.seq ?_
  refine RC.region rfl ?_
  refine RL.ev (.assign rfl) rfl rfl ?_
  refine RL.nil (RC.back ?_)
  refine RC.seq ?_
  refine RC.region rfl ?_
  refine RL.ev (.as (v' := moV p0 m0) (.buildS ze25 pl25 rfl rfl) (by rfl)) rfl rfl ?_
  refine RL.ev (.as (v' := .agg #[.int .i64 1, .int .i64 2, .int .i64 5, .int .i64 7]) (.buildS ze34 pl34 rfl rfl) (by rfl)) rfl rfl ?_
  refine RL.ev (.as (v' := .agg #[.int .i64 1, .int .i64 2, .int .i64 5, .int .i64 8]) (.buildS ze34 pl34 rfl rfl) (by rfl)) rfl rfl ?_
  refine RL.buildSliceN (vs := [_, _]) sl26 _ ze34 rfl ⟨rfl, rfl, trivial⟩ rfl rfl rfl rfl rfl rfl (fun b_8 w_8 e_8 z_8 hb_8 s_8 => ?_)
  have ge_8 := S.le e_8
  have d_h0_b_8 := h0.neNew e_8
  have S := S.trans s_8
  have h0 := h0.sub s_8
  refine RL.call rfl ok13 (c_Run p0 m0 m0_S alOps (some ⟨b_8, 0, none⟩) 2 2 rfl (by decide) w_8 _ h0 (Has.sl0 (rows := alOps.map OpT.cells) hb_8 (by intro r hr; obtain ⟨x, _, rfl⟩ := List.mem_map.1 hr; rfl))) rfl rfl ?_
  rintro _ w1 ⟨s2, hr9⟩
  obtain ⟨_, p', M', a', c', rfl, hs', hF', hup, ho9, _⟩ := hr9.resolve_right (fun e => e.1 hok)
  have S := S.trans s2
  have h0 := h0.sub s2
  have hb_8 := hb_8.sub s2
  have hsl := ho9.sl.1
  obtain ⟨W9, hW9⟩ : ∃ W, W = w1 := ⟨_, rfl⟩
  have S9 : Sub W9 w1 := hW9 ▸ Sub.refl _
  rw [← hW9] at hsl
  refine RL.ev (.move rfl) rfl rfl ?_
  refine RL.ev (.extract rfl rfl) rfl rfl ?_
  refine RL.ev (.extract rfl rfl) rfl rfl ?_
  refine RL.ev (.extract rfl rfl) rfl rfl ?_
  refine RL.alloc ze25 rfl rfl (fun b_1 w_1 e_1 z_1 hb_1 s_1 => ?_)
  have ge_1 := S.le e_1
  have n_8__1 := hb_8.ne e_1
  have d_h0_b_1 := h0.neNew e_1
  have S := S.trans s_1
  have h0 := h0.sub s_1
  have hb_8 := hb_8.sub s_1
  have geS9_1 := S9.le e_1
  have S9 := S9.trans s_1
  refine RL.store sh25 rfl rfl rfl hb_1 (by exact Nat.le_of_ble_eq_true rfl) (by rfl) rfl (fun w3 z3 hb_1 a3 => ?_)
  have S := S.upd a3 ge_1
  have h0 := h0.updD a3 d_h0_b_1
  have hb_8 := hb_8.upd a3 n_8__1
  have S9 := S9.upd a3 geS9_1
  refine RL.ev (.assign rfl) rfl rfl ?_
  refine RL.ev (.assign rfl) rfl rfl ?_
  refine RL.nil (RC.back ?_)
  refine RC.seq ?_
  refine RC.region rfl ?_
  refine RL.ev (.move rfl) rfl rfl ?_
  refine RL.ev (.as (v' := .bool true) (.bin rfl rfl rfl) (congrArg Value.bool (decide_eq_true (rfl)))) rfl rfl ?_
  refine RL.ev (.move rfl) rfl rfl ?_
  refine RL.ev (.move rfl) rfl rfl ?_
  refine RL.ev (.len sl28 rfl) rfl rfl ?_
  refine RL.ev (.as (v' := .bool true) (.bin rfl rfl rfl) (congrArg Value.bool (decide_eq_true (rfl)))) rfl rfl ?_
  refine RL.ev (.pick_t rfl rfl) rfl rfl ?_
  refine RL.ev (.move rfl) rfl rfl ?_
  refine RL.ev (.move rfl) rfl rfl ?_
  refine RL.ev (.indexS sl28 rfl rfl (by rw [List.length_map, runM_len]; decide) (hsl.is (i := 1) (by rw [List.length_map, runM_len]; decide))) rfl rfl ?_
  refine RL.ev (.loadR ((⟨0, 1, 7⟩ : ResT).cells) sh39 rfl ((hsl.sub S9).rowAt (enc := ResT.cells) (i := 1) (x := ⟨0, 1, 7⟩) rfl) rfl) rfl rfl ?_
  refine RL.ev (.as (v' := .agg (⟨0, 1, 7⟩ : ResT).cells.toArray) (.buildS ze39 pl39 rfl rfl) (by rfl)) rfl rfl ?_
  refine RL.ev (.as (v' := .bool true) (.eqS (xs := (⟨0, 1, 7⟩ : ResT).cells) (ys := (⟨0, 1, 7⟩ : ResT).cells) fk39 eg39 sh39 rfl rfl rfl rfl rfl) (congrArg Value.bool (by rfl))) rfl rfl ?_
  refine RL.ev (.pick_t rfl rfl) rfl rfl ?_
  refine RL.ev (.assign rfl) rfl rfl ?_
  refine RL.nil (RC.back ?_)
  refine RC.done (rs := [.tmp 0]) (vs := [_]) rfl rfl ⟨rfl, trivial⟩ ?_
  -- end 1
  exact ⟨rfl, S⟩
end Go.Proofs.Ytjafbffehmombaa
set_option linter.unusedVariables false
set_option linter.unusedSimpArgs false
namespace Go.Proofs.Ytjafbffehmombaa
open Go Go.XL
theorem AnsDo.out {M : Nat → Prop} {w w' : World} {m : Mo} {o : OpT} {u : Value} (h : AnsDo M w w' m o u) : Sub w w' ∧ ∃ p' r1 r2 e M', u = .tuple #[moV p' r1, .agg (r2 : ResT).cells.toArray, .int .i64 e] ∧ MoS p' r1 ∧ Ft M' (fun u => MoR u p' r1) w' ∧ Up M w M' ∧ ((rightM m ∧ okP o) → r1 = (doM m o).1 ∧ r2 = (doM m o).2 ∧ e = 0) ∧ (¬ (rightM m ∧ okP o) → r1 = m0 ∧ r2 = res0 ∧ e = 1) := by
  obtain ⟨s, p', M', h1, h2, h3, h4⟩ := h
  refine ⟨s, p', _, _, _, M', h1, h2, h3, h4, fun g => ?_, fun g => ?_⟩
  · rw [pB_yes g]; exact ⟨rfl, rfl, rfl⟩
  · rw [pB_no g]; exact ⟨rfl, rfl, rfl⟩
end Go.Proofs.Ytjafbffehmombaa
set_option linter.unusedVariables false
set_option linter.unusedSimpArgs false
namespace Go.Proofs.Ytjafbffehmombaa
open Go Go.XL
theorem _root_.Go.XL.FC.asV {P : Program} {f : FuncId} {args : List Value} {w : World} {v v' : Value} (h : FC P f args w (Val v w)) (hq : v = v') : FC P f args w (Val v' w) := by rwa [hq] at h
theorem AnsRun.out {M : Nat → Prop} {w w' : World} {m : Mo} {ops : List OpT} {u : Value} (h : AnsRun M w w' m ops u) (hM : ∀ k, M k → k < w.heap.size) : Sub w w' ∧ ∃ p' r1 rs e M' a' c' M2, u = .tuple #[moV p' r1, .slice a' (rs.map ResT.cells).length c', .int .i64 e] ∧ MoS p' r1 ∧ Ft M' (fun u => MoR u p' r1) w' ∧ Up M w M' ∧ Ft M2 (fun u => Sl u a' 3 (rs.map ResT.cells)) w' ∧ Up (fun _ => False) w M2 ∧ (runOk m ops → r1 = (runM m ops).1 ∧ rs = (runM m ops).2 ∧ e = 0) ∧ (¬ runOk m ops → r1 = m0 ∧ rs = [] ∧ e = 1) := by
  obtain ⟨s, ⟨hk, p', M', a', c', h1, h2, h3, h4, h5, h6⟩ | ⟨hk, h1⟩⟩ := h
  · exact ⟨s, p', _, _, _, M', a', c', _, h1, h2, h3, h4, h5.ft.imp (fun u h => h.sl.1), fun k hk => .inr (h5.ge k hk).1, fun _ => ⟨rfl, rfl, rfl⟩, fun g => absurd hk g⟩
  · exact ⟨s, p0, m0, [], 1, M, none, 0, fun _ => False, h1, m0_S, m0_F M (fun k hk => Nat.lt_of_lt_of_le (hM k hk) s.size), Up.refl _ _, ⟨fun k hk => hk.elim, fun u _ => Sl.nil _ _ _⟩, fun k hk => hk.elim, fun g => absurd g hk, fun _ => ⟨rfl, rfl, rfl⟩⟩
end Go.Proofs.Ytjafbffehmombaa
set_option linter.unusedVariables false
set_option linter.unusedSimpArgs false
namespace Go.Proofs.Ytjafbffehmombaa
open Go Go.XL
def moreM (o : OpT) (r : ResT) : Int := if ¬ r.e = 0 ∨ readsP o then 0 else if o.kind = 3 ∨ o.kind = 5 then -1 else if 2 < o.box ∨ r.a = 0 then 1 else 0
theorem delL_size {l : List It} (hs : Srt l) {key : Int} (h : hasK l key = true) : (delL l key).length + 1 = l.length := by
  obtain ⟨n, hn⟩ : ∃ n, n = (ltL key l).length := ⟨_, rfl⟩
  obtain ⟨g0, g1, g2, g3⟩ := part_has (key := key) hs hn
  obtain ⟨x, hx, e⟩ := g0.1 h
  have := lt_of_get hx
  rw [del_has hs hx e, List.length_append, List.length_take, List.length_drop]; omega
theorem pairs_size {l : List It} {o : OpT} (hs : Srt l) (hok : okP o) (hb : o.box = 1 ∨ o.box = 2) : ((pairsM l o).1.length : Int) = l.length + moreM o (pairsM l o).2 := by
  have hk := hok.1
  unfold kindP at hk
  have hr : readsP o ↔ (o.kind = 1 ∨ o.kind = 6 ∨ (o.box = 1 ∧ (o.kind = 4 ∨ o.kind = 5))) := ⟨fun h => h.2, fun h => ⟨hok, h⟩⟩
  unfold pairsM moreM
  simp only [hr]
  by_cases k6 : o.kind = 6
  · simp [k6]
  · simp only [k6, if_false]
    by_cases k2 : o.kind = 2
    · simp only [k2, if_true]
      split
      · simp
      · rename_i h
        rw [putL_size hs]
        cases hh : hasK l o.a with
        | true => simp; omega
        | false => simp
    · simp only [k2, if_false]
      by_cases k4 : o.kind = 4
      · have b1 : o.box = 1 := by omega
        simp only [k4, if_true]
        generalize (if hasK l o.a = true then (ltL o.a l).length + 1 else (ltL o.a l).length) = q
        by_cases hq : q = 0 <;> simp [b1, hq]
      · simp only [k4, if_false]
        by_cases k5 : o.kind = 5
        · have b1 : o.box = 1 := by omega
          simp [k5, b1]
        · simp only [k5, if_false]
          cases hh : hasK l o.a with
          | false => simp
          | true =>
            by_cases k3 : o.kind = 3
            · have := delL_size hs hh
              simp [k3]; omega
            · have k1 : o.kind = 1 := by omega
              simp [k1]
theorem row_size {l : List Int} {o : OpT} (hok : okP o) (hb : o.box = 3) : ((rowM l o).1.length : Int) = l.length + moreM o (rowM l o).2 := by
  have hk := hok.1
  unfold kindP at hk
  have hr : readsP o ↔ (o.kind = 1 ∨ o.kind = 6 ∨ (o.box = 1 ∧ (o.kind = 4 ∨ o.kind = 5))) := ⟨fun h => h.2, fun h => ⟨hok, h⟩⟩
  unfold rowM moreM
  simp only [hr]
  by_cases k6 : o.kind = 6
  · simp [k6]
  · simp only [k6, if_false]
    by_cases k24 : o.kind = 2 ∨ o.kind = 4
    · simp only [k24, if_true]
      split
      · simp
      · rcases k24 with k | k <;> simp [k, hb]
    · simp only [k24, if_false]
      by_cases k1 : o.kind = 1
      · simp only [k1, if_true]
        split <;> simp
      · simp only [k1, if_false]
        by_cases h0 : l.length = 0
        · simp [h0]
        · simp only [h0, if_false]
          by_cases k3 : o.kind = 3
          · simp [k3]; omega
          · have k5 : o.kind = 5 := by omega
            simp [k5, hb]; omega
theorem heap_size {l : List It} {o : OpT} (hok : okP o) (hb : o.box = 4) : ((heapM l o).1.length : Int) = l.length + moreM o (heapM l o).2 := by
  have hk := hok.1
  unfold kindP at hk
  have hr : readsP o ↔ (o.kind = 1 ∨ o.kind = 6 ∨ (o.box = 1 ∧ (o.kind = 4 ∨ o.kind = 5))) := ⟨fun h => h.2, fun h => ⟨hok, h⟩⟩
  unfold heapM moreM
  simp only [hr]
  by_cases k6 : o.kind = 6
  · simp [k6]
  · simp only [k6, if_false]
    by_cases k2 : o.kind = 2
    · simp only [k2, if_true]
      split
      · simp
      · have := (whN_spec ⟨o.a, o.b⟩ l).1
        simp [hb]; omega
    · simp only [k2, if_false]
      by_cases h0 : l.length = 0
      · simp [h0]
      · simp only [h0, if_false]
        by_cases k3 : o.kind = 3
        · simp [k3]; omega
        · have k1 : o.kind = 1 := by omega
          simp [k1]
/-- each operation's own container is so much larger -/
theorem do_sizes {m : Mo} {o : OpT} (h : rightM m) (hok : okP o) : ∃ d1 d2 d3 d4 : Int, ((doM m o).1.map.length : Int) = m.map.length + d1 ∧ ((doM m o).1.tab.length : Int) = m.tab.length + d2 ∧ ((doM m o).1.row.length : Int) = m.row.length + d3 ∧ ((doM m o).1.heap.length : Int) = m.heap.length + d4 ∧ d1 = (if o.box = 1 then moreM o (doM m o).2 else 0) ∧ d2 = (if o.box = 2 then moreM o (doM m o).2 else 0) ∧ d3 = (if o.box = 3 then moreM o (doM m o).2 else 0) ∧ d4 = (if o.box = 4 then moreM o (doM m o).2 else 0) := by
  obtain ⟨h1, h2, h3, h4, h5, h6, h7, h8⟩ := (rightM_iff m).1 h
  rcases box_cases hok with e | e | e | e
  · have hd : doM m o = ({ m with map := (pairsM m.map o).1 }, (pairsM m.map o).2) := by unfold doM; rw [if_pos e]
    rw [hd]
    refine ⟨_, _, _, _, pairs_size h7 hok (.inl e), (Int.add_zero _).symm, (Int.add_zero _).symm, (Int.add_zero _).symm, ?_, ?_, ?_, ?_⟩ <;> simp [e]
  · have hd : doM m o = ({ m with tab := (pairsM m.tab o).1 }, (pairsM m.tab o).2) := by unfold doM; rw [if_neg (by omega), if_pos e]
    rw [hd]
    refine ⟨_, _, _, _, (Int.add_zero _).symm, pairs_size h8 hok (.inr e), (Int.add_zero _).symm, (Int.add_zero _).symm, ?_, ?_, ?_, ?_⟩ <;> simp [e]
  · have hd : doM m o = ({ m with row := (rowM m.row o).1 }, (rowM m.row o).2) := by unfold doM; rw [if_neg (by omega), if_neg (by omega), if_pos e]
    rw [hd]
    refine ⟨_, _, _, _, (Int.add_zero _).symm, (Int.add_zero _).symm, row_size hok e, (Int.add_zero _).symm, ?_, ?_, ?_, ?_⟩ <;> simp [e]
  · have hd : doM m o = ({ m with heap := (heapM m.heap o).1 }, (heapM m.heap o).2) := by unfold doM; rw [if_neg (by omega), if_neg (by omega), if_neg (by omega)]
    rw [hd]
    refine ⟨_, _, _, _, (Int.add_zero _).symm, (Int.add_zero _).symm, (Int.add_zero _).symm, heap_size hok e, ?_, ?_, ?_, ?_⟩ <;> simp [e]
end Go.Proofs.Ytjafbffehmombaa
set_option linter.unusedVariables false
set_option linter.unusedSimpArgs false
namespace Go.Proofs.Ytjafbffehmombaa
open Go Go.XL
def lensM (m : Mo) : List Value := [.int .i64 0, .int .i64 (m.map.length : Int), .int .i64 (m.tab.length : Int), .int .i64 (m.row.length : Int), .int .i64 (m.heap.length : Int)]
def lenAt (m : Mo) (b : Int) : Int := if b = 1 then m.map.length else if b = 2 then m.tab.length else if b = 3 then m.row.length else m.heap.length
theorem lenAt_cell {m : Mo} {o : OpT} (hok : okP o) : (lensM m)[0 + o.box.toNat * 1]? = some (.int .i64 (lenAt m o.box)) := by
  rcases box_cases hok with e | e | e | e <;> rw [e] <;> rfl
theorem lens_more {m : Mo} {o : OpT} (h : rightM m) (hok : okP o) : eqL (splice (lensM m) (0 + o.box.toNat * 1) [.int .i64 (lenAt m o.box + moreM o (doM m o).2)]) (lensM (doM m o).1) = true := by
  obtain ⟨d1, d2, d3, d4, e1, e2, e3, e4, g1, g2, g3, g4⟩ := do_sizes h hok
  unfold lensM
  rw [e1, e2, e3, e4, g1, g2, g3, g4]
  rcases box_cases hok with e | e | e | e <;> rw [e] <;> simp [splice, lenAt, eqL, eq1]
theorem lens_fits {m : Mo} {o : OpT} (hok : okP o) (x : Int) : fitsK [some .i64, some .i64, some .i64, some .i64, some .i64] (splice (lensM m) (0 + o.box.toNat * 1) [.int .i64 x]) = true := by
  rcases box_cases hok with e | e | e | e <;> rw [e] <;> rfl
theorem lenAt_le {m : Mo} {b : Int} (h : m.map.length ≤ 205 ∧ m.tab.length ≤ 205 ∧ m.row.length ≤ 205 ∧ m.heap.length ≤ 205) : 0 ≤ lenAt m b ∧ lenAt m b ≤ 205 := by
  unfold lenAt; repeat' split
  all_goals omega
theorem moreM_small (o : OpT) (r : ResT) : -1 ≤ moreM o r ∧ moreM o r ≤ 1 := by unfold moreM; repeat' split <;> omega
set_option maxHeartbeats 1000000 in
theorem law_ModelSizes (w : World) (p : Ph) (m : Mo) (hc : m.map.length ≤ p.c1 ∧ m.tab.length ≤ p.c2 ∧ m.row.length ≤ p.c3 ∧ m.heap.length ≤ p.c4) (hR : MoR w p m) (o : OpT) (ho : o.ok) :
    FC Try.prog 10 [moV p m, .agg o.cells.toArray] w (Val (.bool true) w) := by
  have hRf := fewM_R hR
  have hSf := fewM_S hc
  have hF0 := Ft.of_sub fun u s => hRf.sub s
  have hl5 := fewM_l m
  obtain ⟨f, hf⟩ : ∃ f, f = fewM m := ⟨_, rfl⟩
  rw [← hf] at hRf hSf hF0 hl5
  refine FC.intro Try.func10 rfl Try.ntmps10 rfl ?_
  have S := Sub.refl w
  refine RC.seq ?_
  refine RC.region rfl ?_
  refine RL.box rfl rfl rfl (fun b_2 w_2 e_2 z_2 hb_2 s_2 => ?_)
  have ge_2 := S.le e_2
  have d_hF0_b_2 := hF0.neNew e_2
  have S := S.trans s_2
  have hF0 := hF0.sub s_2
  have hb_2 : Has w_2 b_2 ([.slice p.a1 m.map.length p.c1, .slice p.a2 m.tab.length p.c2, .slice p.a3 m.row.length p.c3, .slice p.a4 m.heap.length p.c4]) _ := hb_2
  refine RL.box rfl rfl rfl (fun b_3 w_3 e_3 z_3 hb_3 s_3 => ?_)
  have ge_3 := S.le e_3
  have n_2__3 := hb_2.ne e_3
  have d_hF0_b_3 := hF0.neNew e_3
  have S := S.trans s_3
  have hF0 := hF0.sub s_3
  have hb_2 := hb_2.sub s_3
  have hb_3 : Has w_3 b_3 ([.int .i64 o.box, .int .i64 o.kind, .int .i64 o.a, .int .i64 o.b]) _ := hb_3
  refine RL.ev (.assign rfl) rfl rfl ?_
  refine RL.nil (RC.back ?_)
  refine RC.seq ?_
  refine RC.region rfl ?_
  refine RL.ev (.loadR ([.slice p.a1 m.map.length p.c1, .slice p.a2 m.tab.length p.c2, .slice p.a3 m.row.length p.c3, .slice p.a4 m.heap.length p.c4]) sh25 rfl hb_2.row rfl) rfl rfl ?_
  refine RL.call rfl ok12 (FC.asV (c_few14 p m hc w_3) (show _ = moV p f by rw [hf])) rfl rfl ?_
  rintro _ w1 ⟨rfl, s2⟩
  have S := S.trans s2
  have hF0 := hF0.sub s2
  have hb_2 := hb_2.sub s2
  have hb_3 := hb_3.sub s2
  refine RL.store sh25 rfl rfl rfl hb_2 (by exact Nat.le_of_ble_eq_true rfl) (by rfl) rfl (fun w3 z3 hb_2 a3 => ?_)
  have S := S.upd a3 ge_2
  have hF0 := hF0.updD a3 d_hF0_b_2
  have hb_3 := hb_3.upd a3 n_2__3.symm
  have hb_2 : Has w3 b_2 ([.slice p.a1 f.map.length p.c1, .slice p.a2 f.tab.length p.c2, .slice p.a3 f.row.length p.c3, .slice p.a4 f.heap.length p.c4]) _ := hb_2.now (by kernel_rfl)
  refine RL.nil (RC.back ?_)
  refine RC.seq ?_
  refine RC.region rfl ?_
  refine RL.ev (.loadR ([.slice p.a1 f.map.length p.c1, .slice p.a2 f.tab.length p.c2, .slice p.a3 f.row.length p.c3, .slice p.a4 f.heap.length p.c4]) sh25 rfl hb_2.row rfl) rfl rfl ?_
  refine RL.ev (.loadR ([.int .i64 o.box, .int .i64 o.kind, .int .i64 o.a, .int .i64 o.b]) sh34 rfl hb_3.row rfl) rfl rfl ?_
  refine RL.call rfl ok20 (c_Do p f hSf o w3 _ hF0) rfl rfl ?_
  rintro _ w4 h16
  obtain ⟨s5, p', r1, r2, e, M', rfl, hs', hF', hup, hy, hn⟩ := h16.out
  have d_hF'_b_2 := upNe hup d_hF0_b_2 hb_2.lt
  have d_hF'_b_3 := upNe hup d_hF0_b_3 hb_3.lt
  have S := S.trans s5
  have hF0 := hF0.sub s5
  have hb_2 := hb_2.sub s5
  have hb_3 := hb_3.sub s5
  refine RL.ev (.move rfl) rfl rfl ?_
  refine RL.ev (.extract rfl rfl) rfl rfl ?_
  refine RL.ev (.extract rfl rfl) rfl rfl ?_
  refine RL.ev (.extract rfl rfl) rfl rfl ?_
  refine RL.alloc ze25 rfl rfl (fun b_5 w_5 e_5 z_5 hb_5 s_5 => ?_)
  have ge_5 := S.le e_5
  have n_2__5 := hb_2.ne e_5
  have n_3__5 := hb_3.ne e_5
  have d_hF0_b_5 := hF0.neNew e_5
  have d_hF'_b_5 := hF'.neNew e_5
  have S := S.trans s_5
  have hF0 := hF0.sub s_5
  have hb_2 := hb_2.sub s_5
  have hb_3 := hb_3.sub s_5
  have hF' := hF'.sub s_5
  refine RL.alloc ze39 rfl rfl (fun b_6 w_6 e_6 z_6 hb_6 s_6 => ?_)
  have ge_6 := S.le e_6
  have n_2__6 := hb_2.ne e_6
  have n_3__6 := hb_3.ne e_6
  have n_5__6 := hb_5.ne e_6
  have d_hF0_b_6 := hF0.neNew e_6
  have d_hF'_b_6 := hF'.neNew e_6
  have S := S.trans s_6
  have hF0 := hF0.sub s_6
  have hb_2 := hb_2.sub s_6
  have hb_3 := hb_3.sub s_6
  have hF' := hF'.sub s_6
  have hb_5 := hb_5.sub s_6
  refine RL.store sh25 rfl rfl rfl hb_5 (by exact Nat.le_of_ble_eq_true rfl) (by rfl) rfl (fun w6 z6 hb_5 a6 => ?_)
  have S := S.upd a6 ge_5
  have hF0 := hF0.updD a6 d_hF0_b_5
  have hb_2 := hb_2.upd a6 n_2__5
  have hb_3 := hb_3.upd a6 n_3__5
  have hF' := hF'.updD a6 d_hF'_b_5
  have hb_6 := hb_6.upd a6 n_5__6.symm
  have hb_5 : Has w6 b_5 ([.slice p'.a1 r1.map.length p'.c1, .slice p'.a2 r1.tab.length p'.c2, .slice p'.a3 r1.row.length p'.c3, .slice p'.a4 r1.heap.length p'.c4]) _ := hb_5.now (by kernel_rfl)
  refine RL.store sh39 rfl rfl rfl hb_6 (by exact Nat.le_of_ble_eq_true rfl) (by rfl) rfl (fun w7 z7 hb_6 a7 => ?_)
  have S := S.upd a7 ge_6
  have hF0 := hF0.updD a7 d_hF0_b_6
  have hb_2 := hb_2.upd a7 n_2__6
  have hb_3 := hb_3.upd a7 n_3__6
  have hF' := hF'.updD a7 d_hF'_b_6
  have hb_5 := hb_5.upd a7 n_5__6
  have hb_6 : Has w7 b_6 ([.int .i64 r2.e, .int .i64 r2.a, .int .i64 r2.b]) _ := hb_6.now (by kernel_rfl)
  refine RL.ev (.assign rfl) rfl rfl ?_
  refine RL.nil (RC.back ?_)
  refine RC.seq ?_
  refine RC.seq ?_
  refine RC.region rfl ?_
  refine RL.ev (.move rfl) rfl rfl ?_
  refine RL.ev (.bin rfl rfl rfl) rfl rfl ?_
  refine RL.nil (RC.back ?_)
  refine RC.cond_dec rfl (fun h8 => ?_) (fun h8 => ?_)
  ·
    refine RC.seq ?_
    refine RC.region rfl ?_
    refine RL.call rfl ok16 (c_alive14 w7) rfl rfl ?_
    rintro _ w9 ⟨rfl, s10⟩
    have S := S.trans s10
    have hF0 := hF0.sub s10
    have hb_2 := hb_2.sub s10
    have hb_3 := hb_3.sub s10
    have hF' := hF'.sub s10
    have hb_5 := hb_5.sub s10
    have hb_6 := hb_6.sub s10
    refine RL.ev (.assign rfl) rfl rfl ?_
    refine RL.nil (RC.back ?_)
    refine RC.done (rs := [.tmp 4]) (vs := [_]) rfl rfl ⟨rfl, trivial⟩ ?_
    -- end 1
    exact ⟨rfl, S⟩
  ·
    have gok : rightM f ∧ okP o := (Classical.byContradiction fun g => by have := (hn g).2.2; omega)
    obtain ⟨e1, e2, e3⟩ := hy gok
    have hbx := box_cases gok.2
    have hms := moreM_small o r2
    have hla := lenAt_le (b := o.box) hl5
    refine RC.skip (RC.back ?_)
    refine RC.seq ?_
    refine RC.region rfl ?_
    refine RL.ev (.field0 fo25_0 rfl) rfl rfl ?_
    refine RL.ev (.load1 sh22 rfl (hb_2.cell rfl)) rfl rfl ?_
    refine RL.ev (.len sl22 rfl) rfl rfl ?_
    refine RL.ev (.field0 fo25_1 rfl) rfl rfl ?_
    refine RL.ev (.load1 sh22 rfl (hb_2.cell rfl)) rfl rfl ?_
    refine RL.ev (.len sl22 rfl) rfl rfl ?_
    refine RL.ev (.field0 fo25_2 rfl) rfl rfl ?_
    refine RL.ev (.load1 sh23 rfl (hb_2.cell rfl)) rfl rfl ?_
    refine RL.ev (.len sl23 rfl) rfl rfl ?_
    refine RL.ev (.field0 fo25_3 rfl) rfl rfl ?_
    refine RL.ev (.load1 sh22 rfl (hb_2.cell rfl)) rfl rfl ?_
    refine RL.ev (.len sl22 rfl) rfl rfl ?_
    refine RL.ev (.as (v' := .agg (lensM f).toArray) (.buildA ze54 ar54 rfl rfl) (by rfl)) rfl rfl ?_
    refine RL.alloc ze54 rfl rfl (fun b_8 w_8 e_8 z_8 hb_8 s_8 => ?_)
    have ge_8 := S.le e_8
    have n_2__8 := hb_2.ne e_8
    have n_3__8 := hb_3.ne e_8
    have n_5__8 := hb_5.ne e_8
    have n_6__8 := hb_6.ne e_8
    have d_hF0_b_8 := hF0.neNew e_8
    have d_hF'_b_8 := hF'.neNew e_8
    have S := S.trans s_8
    have hF0 := hF0.sub s_8
    have hb_2 := hb_2.sub s_8
    have hb_3 := hb_3.sub s_8
    have hF' := hF'.sub s_8
    have hb_5 := hb_5.sub s_8
    have hb_6 := hb_6.sub s_8
    refine RL.store sh54 rfl rfl rfl hb_8 (by exact Nat.le_of_ble_eq_true rfl) (by rfl) rfl (fun w11 z11 hb_8 a11 => ?_)
    have S := S.upd a11 ge_8
    have hF0 := hF0.updD a11 d_hF0_b_8
    have hb_2 := hb_2.upd a11 n_2__8
    have hb_3 := hb_3.upd a11 n_3__8
    have hF' := hF'.updD a11 d_hF'_b_8
    have hb_5 := hb_5.upd a11 n_5__8
    have hb_6 := hb_6.upd a11 n_6__8
    have hb_8 : Has w11 b_8 (lensM f) _ := hb_8.now (by kernel_rfl)
    refine RL.nil (RC.back ?_)
    refine RC.seq ?_
    refine RC.region rfl ?_
    refine RL.ev (.field0 fo25_0 rfl) rfl rfl ?_
    refine RL.ev (.load1 sh22 rfl (hb_5.cell rfl)) rfl rfl ?_
    refine RL.ev (.len sl22 rfl) rfl rfl ?_
    refine RL.ev (.field0 fo25_1 rfl) rfl rfl ?_
    refine RL.ev (.load1 sh22 rfl (hb_5.cell rfl)) rfl rfl ?_
    refine RL.ev (.len sl22 rfl) rfl rfl ?_
    refine RL.ev (.field0 fo25_2 rfl) rfl rfl ?_
    refine RL.ev (.load1 sh23 rfl (hb_5.cell rfl)) rfl rfl ?_
    refine RL.ev (.len sl23 rfl) rfl rfl ?_
    refine RL.ev (.field0 fo25_3 rfl) rfl rfl ?_
    refine RL.ev (.load1 sh22 rfl (hb_5.cell rfl)) rfl rfl ?_
    refine RL.ev (.len sl22 rfl) rfl rfl ?_
    refine RL.ev (.as (v' := .agg (lensM r1).toArray) (.buildA ze54 ar54 rfl rfl) (by rfl)) rfl rfl ?_
    refine RL.alloc ze54 rfl rfl (fun b_9 w_9 e_9 z_9 hb_9 s_9 => ?_)
    have ge_9 := S.le e_9
    have n_2__9 := hb_2.ne e_9
    have n_3__9 := hb_3.ne e_9
    have n_5__9 := hb_5.ne e_9
    have n_6__9 := hb_6.ne e_9
    have n_8__9 := hb_8.ne e_9
    have d_hF0_b_9 := hF0.neNew e_9
    have d_hF'_b_9 := hF'.neNew e_9
    have S := S.trans s_9
    have hF0 := hF0.sub s_9
    have hb_2 := hb_2.sub s_9
    have hb_3 := hb_3.sub s_9
    have hF' := hF'.sub s_9
    have hb_5 := hb_5.sub s_9
    have hb_6 := hb_6.sub s_9
    have hb_8 := hb_8.sub s_9
    refine RL.store sh54 rfl rfl rfl hb_9 (by exact Nat.le_of_ble_eq_true rfl) (by rfl) rfl (fun w12 z12 hb_9 a12 => ?_)
    have S := S.upd a12 ge_9
    have hF0 := hF0.updD a12 d_hF0_b_9
    have hb_2 := hb_2.upd a12 n_2__9
    have hb_3 := hb_3.upd a12 n_3__9
    have hF' := hF'.updD a12 d_hF'_b_9
    have hb_5 := hb_5.upd a12 n_5__9
    have hb_6 := hb_6.upd a12 n_6__9
    have hb_8 := hb_8.upd a12 n_8__9
    have hb_9 : Has w12 b_9 (lensM r1) _ := hb_9.now (by kernel_rfl)
    refine RL.nil (RC.back ?_)
    refine RC.seq ?_
    refine RC.region rfl ?_
    refine RL.ev (.assign rfl) rfl rfl ?_
    refine RL.nil (RC.back ?_)
    refine RC.cutx (α := Int) (fun y_ => [(3, .pointer (some ⟨b_3, 0, none⟩)), (8, .pointer (some ⟨b_8, 0, none⟩)), (9, .pointer (some ⟨b_9, 0, none⟩)), (10, .int .i64 y_)]) (fun y_ w13 => y_ = moreM o r2 ∧ Has w13 b_3 [.int .i64 o.box, .int .i64 o.kind, .int .i64 o.a, .int .i64 o.b] 34 ∧ Has w13 b_8 (lensM f) 54 ∧ Has w13 b_9 (lensM r1) 54 ∧ Sub w w13) ?_ (fun y_ w13 hJ => ?_)
    ·
      refine RC.block ?_
      refine RC.seq ?_
      refine RC.region rfl ?_
      refine RL.ev (.field0 fo39_0 rfl) rfl rfl ?_
      refine RL.ev (.load1 sh29 rfl (hb_6.cell rfl)) rfl rfl ?_
      refine RL.ev (.bin rfl rfl rfl) rfl rfl ?_
      refine RL.ev (.move rfl) rfl rfl ?_
      refine RL.split 53 rfl (fun h14 => ?_) (fun h14 => ?_)
      ·
        have g53 : ¬ r2.e = 0 := h14
        refine RL.off rfl rfl ?_
        refine RL.off rfl rfl ?_
        refine RL.ev (.pick_t rfl rfl) rfl rfl ?_
        refine RL.ev (.assign rfl) rfl rfl ?_
        refine RL.nil (RC.back ?_)
        refine RC.cond_t rfl ?_
        exact RC.skip (fun a ka => ⟨0, ⟨by unfold moreM; rw [if_pos (.inl g53)], hb_3, hb_8, hb_9, S⟩, ka.keep (keep_of (by repeat (first | exact trivial | refine And.intro rfl ?_)))⟩)
      ·
        have g53 : ¬ ¬ r2.e = 0 := h14
        refine RL.ev (.loadR ([.int .i64 o.box, .int .i64 o.kind, .int .i64 o.a, .int .i64 o.b]) sh34 rfl hb_3.row rfl) rfl rfl ?_
        refine RL.call rfl ok21 (c_ref13Reads o w12) rfl rfl ?_
        rintro _ w15 ⟨rfl, s16⟩
        have S := S.trans s16
        have hF0 := hF0.sub s16
        have hb_2 := hb_2.sub s16
        have hb_3 := hb_3.sub s16
        have hF' := hF'.sub s16
        have hb_5 := hb_5.sub s16
        have hb_6 := hb_6.sub s16
        have hb_8 := hb_8.sub s16
        have hb_9 := hb_9.sub s16
        refine RL.ev (.pick_f rfl rfl) rfl rfl ?_
        refine RL.ev (.assign rfl) rfl rfl ?_
        refine RL.nil (RC.back ?_)
        refine RC.cond_dec rfl (fun h17 => ?_) (fun h17 => ?_)
        ·
          have g49 : readsP o := h17
          exact RC.skip (fun a ka => ⟨0, ⟨by unfold moreM; rw [if_pos (.inr g49)], hb_3, hb_8, hb_9, S⟩, ka.keep (keep_of (by repeat (first | exact trivial | refine And.intro rfl ?_)))⟩)
        ·
          have g49 : ¬ (¬ r2.e = 0 ∨ readsP o) := (fun e => e.elim g53 h17)
          refine RC.seq ?_
          refine RC.region rfl ?_
          refine RL.ev (.field0 fo34_1 rfl) rfl rfl ?_
          refine RL.ev (.load1 sh3 rfl (hb_3.cell rfl)) rfl rfl ?_
          refine RL.ev (.bin rfl rfl rfl) rfl rfl ?_
          refine RL.ev (.move rfl) rfl rfl ?_
          refine RL.split 61 rfl (fun h18 => ?_) (fun h18 => ?_)
          ·
            have g61 : o.kind = 3 := h18
            refine RL.off rfl rfl ?_
            refine RL.off rfl rfl ?_
            refine RL.off rfl rfl ?_
            refine RL.ev (.pick_t rfl rfl) rfl rfl ?_
            refine RL.ev (.assign rfl) rfl rfl ?_
            refine RL.nil (RC.back ?_)
            refine RC.cond_t rfl ?_
            refine RC.region rfl ?_
            refine RL.ev (.assign rfl) rfl rfl ?_
            exact RL.nil (fun a ka => ⟨-1, ⟨by unfold moreM; rw [if_neg g49, if_pos (.inl g61)], hb_3, hb_8, hb_9, S⟩, ka.keep (keep_of (by repeat (first | exact trivial | refine And.intro rfl ?_)))⟩)
          ·
            have g61 : ¬ o.kind = 3 := h18
            refine RL.ev (.field0 fo34_1 rfl) rfl rfl ?_
            refine RL.ev (.load1 sh3 rfl (hb_3.cell rfl)) rfl rfl ?_
            refine RL.ev (.bin rfl rfl rfl) rfl rfl ?_
            refine RL.ev (.pick_f rfl rfl) rfl rfl ?_
            refine RL.ev (.assign rfl) rfl rfl ?_
            refine RL.nil (RC.back ?_)
            refine RC.cond_dec rfl (fun h19 => ?_) (fun h19 => ?_)
            ·
              have g57 : o.kind = 5 := h19
              refine RC.region rfl ?_
              refine RL.ev (.assign rfl) rfl rfl ?_
              exact RL.nil (fun a ka => ⟨-1, ⟨by unfold moreM; rw [if_neg g49, if_pos (.inr g57)], hb_3, hb_8, hb_9, S⟩, ka.keep (keep_of (by repeat (first | exact trivial | refine And.intro rfl ?_)))⟩)
            ·
              have g57 : ¬ (o.kind = 3 ∨ o.kind = 5) := (fun e => e.elim g61 h19)
              refine RC.seq ?_
              refine RC.region rfl ?_
              refine RL.ev (.field0 fo34_0 rfl) rfl rfl ?_
              refine RL.ev (.load1 sh3 rfl (hb_3.cell rfl)) rfl rfl ?_
              refine RL.ev (.bin rfl rfl rfl) rfl rfl ?_
              refine RL.ev (.move rfl) rfl rfl ?_
              refine RL.split 70 rfl (fun h20 => ?_) (fun h20 => ?_)
              ·
                have g70 : 2 < o.box := h20
                refine RL.off rfl rfl ?_
                refine RL.off rfl rfl ?_
                refine RL.off rfl rfl ?_
                refine RL.ev (.pick_t rfl rfl) rfl rfl ?_
                refine RL.ev (.assign rfl) rfl rfl ?_
                refine RL.nil (RC.back ?_)
                refine RC.cond_t rfl ?_
                refine RC.region rfl ?_
                refine RL.ev (.assign rfl) rfl rfl ?_
                exact RL.nil (fun a ka => ⟨1, ⟨by unfold moreM; rw [if_neg g49, if_neg g57, if_pos (.inl g70)], hb_3, hb_8, hb_9, S⟩, ka.keep (keep_of (by repeat (first | exact trivial | refine And.intro rfl ?_)))⟩)
              ·
                have g70 : ¬ 2 < o.box := h20
                refine RL.ev (.field0 fo39_1 rfl) rfl rfl ?_
                refine RL.ev (.load1 sh2 rfl (hb_6.cell rfl)) rfl rfl ?_
                refine RL.ev (.bin rfl rfl rfl) rfl rfl ?_
                refine RL.ev (.pick_f rfl rfl) rfl rfl ?_
                refine RL.ev (.assign rfl) rfl rfl ?_
                refine RL.nil (RC.back ?_)
                refine RC.cond_dec rfl (fun h21 => ?_) (fun h21 => ?_)
                ·
                  have g66 : r2.a = 0 := h21
                  refine RC.region rfl ?_
                  refine RL.ev (.assign rfl) rfl rfl ?_
                  exact RL.nil (fun a ka => ⟨1, ⟨by unfold moreM; rw [if_neg g49, if_neg g57, if_pos (.inr g66)], hb_3, hb_8, hb_9, S⟩, ka.keep (keep_of (by repeat (first | exact trivial | refine And.intro rfl ?_)))⟩)
                ·
                  have g66 : ¬ (2 < o.box ∨ r2.a = 0) := (fun e => e.elim g70 h21)
                  exact RC.skip (fun a ka => ⟨0, ⟨by unfold moreM; rw [if_neg g49, if_neg g57, if_neg g66], hb_3, hb_8, hb_9, S⟩, ka.keep (keep_of (by repeat (first | exact trivial | refine And.intro rfl ?_)))⟩)
    obtain ⟨hyy, hb_3, hb_8, hb_9, S⟩ := hJ
    have hyb : -1 ≤ y_ ∧ y_ ≤ 1 := hyy ▸ hms
    refine RC.seq ?_
    refine RC.region rfl ?_
    refine RL.ev (.field0 fo34_0 rfl) rfl rfl ?_
    refine RL.ev (.load1 sh3 rfl (hb_3.cell rfl)) rfl rfl ?_
    refine RL.ev (.indexArr ar54 rfl rfl (by omega)) rfl rfl ?_
    refine RL.ev (.load1 sh3 rfl (hb_8.cell (lenAt_cell gok.2))) rfl rfl ?_
    refine RL.ev (.move rfl) rfl rfl ?_
    refine RL.ev (.as (.bin rfl rfl rfl) (wi64 (y := lenAt f o.box + y_) (by rfl) (by omega))) rfl rfl ?_
    refine RL.ev (.indexArr ar54 rfl rfl (by omega)) rfl rfl ?_
    refine RL.store sh3 rfl rfl rfl hb_8 (by show 0 + o.box.toNat * 1 + 1 ≤ 5; omega) (by rfl) rfl (fun w22 z22 hb_8 a22 => ?_)
    have S := S.upd a22 ge_8
    have hb_3 := hb_3.upd a22 n_3__8
    have hb_9 := hb_9.upd a22 n_8__9.symm
    have hb_8 := Has.is hb_8 (splice (lensM f) (0 + o.box.toNat * 1) [.int .i64 (lenAt f o.box + moreM o r2)]) (by rw [hyy]; rfl)
    refine RL.nil (RC.back ?_)
    refine RC.seq ?_
    refine RC.region rfl ?_
    refine RL.call rfl ok16 (c_alive14 w22) rfl rfl ?_
    rintro _ w23 ⟨rfl, s24⟩
    have S := S.trans s24
    have hb_3 := hb_3.sub s24
    have hb_8 := hb_8.sub s24
    have hb_9 := hb_9.sub s24
    refine RL.ev (.move rfl) rfl rfl ?_
    refine RL.ev (.loadR (splice (lensM f) (0 + o.box.toNat * 1) [.int .i64 (lenAt f o.box + moreM o r2)]) sh54 rfl hb_8.row (by rw [splice_length]; rfl)) rfl rfl ?_
    refine RL.ev (.loadR (lensM r1) sh54 rfl hb_9.row rfl) rfl rfl ?_
    refine RL.ev (.as (v' := .bool true) (.eqS (xs := splice (lensM f) (0 + o.box.toNat * 1) [.int .i64 (lenAt f o.box + moreM o r2)]) (ys := lensM r1) fk54 eg54 sh54 rfl rfl rfl (lens_fits gok.2 _) rfl) (congrArg Value.bool (by rw [e1, e2]; exact lens_more gok.1 gok.2))) rfl rfl ?_
    refine RL.ev (.pick_t rfl rfl) rfl rfl ?_
    refine RL.ev (.assign rfl) rfl rfl ?_
    refine RL.nil (RC.back ?_)
    refine RC.done (rs := [.tmp 4]) (vs := [_]) rfl rfl ⟨rfl, trivial⟩ ?_
    -- end 2
    exact ⟨rfl, S⟩
end Go.Proofs.Ytjafbffehmombaa
