/-
  The package model: Run.
-/
import Derived.Test.YtjafbffehmombaaModelF
set_option linter.unusedVariables false
set_option linter.unusedSimpArgs false
namespace Go.Proofs.Ytjafbffehmombaa
open Go Go.XL

def runM (m : Mo) : List OpT → Mo × List ResT
  | [] => (m, [])
  | o :: os => ((runM (doM m o).1 os).1, (doM m o).2 :: (runM (doM m o).1 os).2)
theorem runM_app (l r : List OpT) : ∀ m : Mo, runM m (l ++ r) = ((runM (runM m l).1 r).1, (runM m l).2 ++ (runM (runM m l).1 r).2) := by
  induction l with
  | nil => intro m; rfl
  | cons o l ih => intro m; simp only [List.cons_append, runM, ih]
theorem runM_step {m : Mo} {ops : List OpT} {i : Nat} {o : OpT} (h : ops[i]? = some o) : runM m (ops.take (i + 1)) = ((doM (runM m (ops.take i)).1 o).1, (runM m (ops.take i)).2 ++ [(doM (runM m (ops.take i)).1 o).2]) := by
  rw [List.take_add_one, h, runM_app]; rfl
theorem runM_len (m : Mo) (ops : List OpT) : (runM m ops).2.length = ops.length := by
  induction ops generalizing m with
  | nil => rfl
  | cons o l ih => simp only [runM, List.length_cons, ih]
def runOk (m : Mo) (ops : List OpT) : Prop := rightM m ∧ ∀ o ∈ ops, okP o
theorem rightM_run {ops : List OpT} : ∀ {m : Mo}, runOk m ops → rightM (runM m ops).1 := by
  induction ops with
  | nil => exact fun h => h.1
  | cons o l ih => exact fun h => ih ⟨rightM_do h.1 (h.2 o (by simp)), fun x hx => h.2 x (by simp [hx])⟩
theorem runOk.take {m : Mo} {ops : List OpT} (h : runOk m ops) (i : Nat) : runOk m (ops.take i) := ⟨h.1, fun x hx => h.2 x (List.mem_of_mem_take hx)⟩
theorem c_run1 (o : OpT) (w : World) : FC Try.prog 24 [.agg o.cells.toArray] w (Val (.bool (!decide (okP o))) w) := by
  refine FC.intro Try.func24 rfl Try.ntmps24 rfl ?_
  have S := Sub.refl w
  refine RC.seq ?_
  refine RC.region rfl ?_
  refine RL.box rfl rfl rfl (fun b_1 w_1 e_1 z_1 hb_1 s_1 => ?_)
  have ge_1 := S.le e_1
  have S := S.trans s_1
  have hb_1 : Has w_1 b_1 ([.int .i64 o.box, .int .i64 o.kind, .int .i64 o.a, .int .i64 o.b]) _ := hb_1
  refine RL.ev (.assign rfl) rfl rfl ?_
  refine RL.nil (RC.back ?_)
  refine RC.seq ?_
  refine RC.region rfl ?_
  refine RL.ev (.loadR ([.int .i64 o.box, .int .i64 o.kind, .int .i64 o.a, .int .i64 o.b]) sh34 rfl hb_1.row rfl) rfl rfl ?_
  refine RL.call rfl ok25 (c_opRight o w_1) rfl rfl ?_
  rintro _ w1 ⟨rfl, s2⟩
  have S := S.trans s2
  have hb_1 := hb_1.sub s2
  refine RL.ev (.not rfl) rfl rfl ?_
  refine RL.ev (.assign rfl) rfl rfl ?_
  refine RL.nil (RC.back ?_)
  refine RC.done (rs := [.tmp 2]) (vs := [_]) rfl rfl ⟨rfl, trivial⟩ ?_
  -- end 1
  exact ⟨rfl, S⟩
structure RunI (b2 b4 : Nat) (w W : World) (M : Nat → Prop) (cur : Mo × List ResT) (p' : Ph) (M' : Nat → Prop) (a7 : Option Addr) (c7 : Nat) : Prop where
  hb : Has W b2 [.slice p'.a1 cur.1.map.length p'.c1, .slice p'.a2 cur.1.tab.length p'.c2, .slice p'.a3 cur.1.row.length p'.c3, .slice p'.a4 cur.1.heap.length p'.c4] 25
  hb4 : Has W b4 [.slice none 0 0, .slice none 0 0, .slice none 0 0, .slice none 0 0] 25
  hF : Ft M' (fun u => MoR u p' cur.1) W
  hs : MoS p' cur.1
  o7 : Ows w.heap.size W 39 3 (.slice a7 (cur.2.map ResT.cells).length c7) (cur.2.map ResT.cells)
  d1 : ∀ k, M' k → k ≠ b2
  d2 : ∀ k, M' k → k ≠ b4
  d3 : ∀ k, ob (.slice a7 (cur.2.map ResT.cells).length c7) = some k → k ≠ b2
  d4 : ∀ k, ob (.slice a7 (cur.2.map ResT.cells).length c7) = some k → k ≠ b4
  d5 : ∀ k, ob (.slice a7 (cur.2.map ResT.cells).length c7) = some k → M' k → False
  up : Up M w M'
  S : Sub w W
/-- an answer of Run -/
def AnsRun (M : Nat → Prop) (w w' : World) (m : Mo) (ops : List OpT) (u : Value) : Prop :=
  Sub w w' ∧ ((runOk m ops ∧ ∃ p' M' a' c', u = .tuple #[moV p' (runM m ops).1, .slice a' ((runM m ops).2.map ResT.cells).length c', .int .i64 0] ∧ MoS p' (runM m ops).1 ∧ Ft M' (fun u => MoR u p' (runM m ops).1) w' ∧ Up M w M' ∧ Ows w.heap.size w' 39 3 (.slice a' ((runM m ops).2.map ResT.cells).length c') ((runM m ops).2.map ResT.cells) ∧ (∀ k, ob (.slice a' ((runM m ops).2.map ResT.cells).length c') = some k → M' k → False)) ∨ (¬ runOk m ops ∧ u = .tuple #[moV p0 m0, .slice none 0 0, .int .i64 1]))
set_option maxHeartbeats 1000000 in
theorem c_Run (p : Ph) (m : Mo) (hs : MoS p m) (ops : List OpT) (pa : Option Addr) (pc n : Nat) (hn : n = ops.length) (hl60 : ops.length ≤ 4000) (w : World) (M : Nat → Prop) (hF : Ft M (fun u => MoR u p m) w) (ho : Sl w pa 4 (ops.map OpT.cells)) :
    FC Try.prog 13 [moV p m, .slice pa n pc] w (fun u w' => AnsRun M w w' m ops u) := by
  subst hn
  have hF0 := hF
  refine FC.intro Try.func13 rfl Try.ntmps13 rfl ?_
  have S := Sub.refl w
  refine RC.seq ?_
  refine RC.region rfl ?_
  refine RL.box rfl rfl rfl (fun b_2 w_2 e_2 z_2 hb_2 s_2 => ?_)
  have ge_2 := S.le e_2
  have d_hF_b_2 := hF.neNew e_2
  have S := S.trans s_2
  have hF := hF.sub s_2
  have hb_2 : Has w_2 b_2 ([.slice p.a1 m.map.length p.c1, .slice p.a2 m.tab.length p.c2, .slice p.a3 m.row.length p.c3, .slice p.a4 m.heap.length p.c4]) _ := hb_2
  refine RL.alloc ze25 rfl rfl (fun b_4 w_4 e_4 z_4 hb_4 s_4 => ?_)
  have ge_4 := S.le e_4
  have n_2__4 := hb_2.ne e_4
  have d_hF_b_4 := hF.neNew e_4
  have S := S.trans s_4
  have hF := hF.sub s_4
  have hb_2 := hb_2.sub s_4
  refine RL.ev (.assign rfl) rfl rfl ?_
  refine RL.ev (.assign rfl) rfl rfl ?_
  refine RL.nil (RC.back ?_)
  refine RC.seq ?_
  refine RC.seq ?_
  refine RC.region rfl ?_
  refine RL.ev (.loadR ([.slice p.a1 m.map.length p.c1, .slice p.a2 m.tab.length p.c2, .slice p.a3 m.row.length p.c3, .slice p.a4 m.heap.length p.c4]) sh25 rfl hb_2.row rfl) rfl rfl ?_
  refine RL.call rfl ok19 (c_right p m hs w_4 hF.now) rfl rfl ?_
  rintro _ w1 ⟨rfl, s2⟩
  have S := S.trans s2
  have hF := hF.sub s2
  have hb_2 := hb_2.sub s2
  have hb_4 := hb_4.sub s2
  refine RL.ev (.not rfl) rfl rfl ?_
  refine RL.ev (.move rfl) rfl rfl ?_
  refine RL.splitB 15 rfl (fun h3 => ?_) (fun h3 => ?_)
  ·
    have g15 : ¬ rightM m := (fun e => by rw [pB_yes e] at h3; cases h3)
    refine RL.off rfl rfl ?_
    refine RL.off rfl rfl ?_
    refine RL.off rfl rfl ?_
    refine RL.ev (.pick_t rfl rfl) rfl rfl ?_
    refine RL.ev (.move rfl) rfl rfl ?_
    refine RL.off rfl rfl ?_
    refine RL.off rfl rfl ?_
    refine RL.ev (.pick_t rfl rfl) rfl rfl ?_
    refine RL.nil (RC.back ?_)
    refine RC.cond_t rfl ?_
    refine RC.seq ?_
    refine RC.region rfl ?_
    refine RL.ev (.as (v' := .agg #[.slice none 0 0, .slice none 0 0, .slice none 0 0, .slice none 0 0]) (.buildS ze25 pl25 rfl rfl) (by kernel_rfl)) rfl rfl ?_
    refine RL.store sh25 rfl rfl rfl hb_4 (by exact Nat.le_of_ble_eq_true rfl) (by rfl) rfl (fun w4 z4 hb_4 a4 => ?_)
    have S := S.upd a4 ge_4
    have hF := hF.updD a4 d_hF_b_4
    have hb_2 := hb_2.upd a4 n_2__4
    have hb_4 : Has w4 b_4 ([.slice none 0 0, .slice none 0 0, .slice none 0 0, .slice none 0 0]) _ := hb_4.now (by kernel_rfl)
    refine RL.ev (.assign rfl) rfl rfl ?_
    refine RL.ev (.assign rfl) rfl rfl ?_
    refine RL.nil (RC.back ?_)
    refine RC.done (rs := [.cell 4 25, .tmp 5, .tmp 6]) (vs := [_, _, _]) rfl rfl ⟨⟨_, rfl, .inr ⟨[.slice none 0 0, .slice none 0 0, .slice none 0 0, .slice none 0 0], sh25, hb_4.row, rfl⟩⟩, rfl, rfl, trivial⟩ ?_
    -- end 1
    exact ⟨S, .inr ⟨fun e => g15 e.1, rfl⟩⟩
  ·
    have g15 : rightM m := (by have q := h3; rw [Bool.not_eq_false'] at q; exact pB_iff.1 q)
    refine RL.ev (.move rfl) rfl rfl ?_
    refine RL.ev (.len sl26 rfl) rfl rfl ?_
    refine RL.ev (.as (v' := .bool false) (.bin rfl rfl rfl) (congrArg Value.bool (decide_eq_false (by omega)))) rfl rfl ?_
    refine RL.ev (.pick_f rfl rfl) rfl rfl ?_
    refine RL.ev (.move rfl) rfl rfl ?_
    refine RL.ev (.move rfl) rfl rfl ?_
    refine RL.call rfl ok23 (c_containsOp 24 ok24 [] (fun o => !decide (okP o)) ops pa pc _ rfl w1 (fun x _ w' _ => c_run1 x w') (ho.sub S) (by omega)) rfl rfl ?_
    rintro _ w5 ⟨rfl, s6⟩
    have S := S.trans s6
    have hF := hF.sub s6
    have hb_2 := hb_2.sub s6
    have hb_4 := hb_4.sub s6
    refine RL.ev (.pick_f rfl rfl) rfl rfl ?_
    refine RL.nil (RC.back ?_)
    refine RC.cond rfl (fun h7 => ?_) (fun h7 => ?_)
    ·
      have g23 : ¬ ∀ o ∈ ops, okP o := (fun e => by have q := h7; rw [List.any_eq_true] at q; obtain ⟨x, hx, hq⟩ := q; simp [e x hx] at hq)
      refine RC.seq ?_
      refine RC.region rfl ?_
      refine RL.ev (.as (v' := .agg #[.slice none 0 0, .slice none 0 0, .slice none 0 0, .slice none 0 0]) (.buildS ze25 pl25 rfl rfl) (by kernel_rfl)) rfl rfl ?_
      refine RL.store sh25 rfl rfl rfl hb_4 (by exact Nat.le_of_ble_eq_true rfl) (by rfl) rfl (fun w8 z8 hb_4 a8 => ?_)
      have S := S.upd a8 ge_4
      have hF := hF.updD a8 d_hF_b_4
      have hb_2 := hb_2.upd a8 n_2__4
      have hb_4 : Has w8 b_4 ([.slice none 0 0, .slice none 0 0, .slice none 0 0, .slice none 0 0]) _ := hb_4.now (by kernel_rfl)
      refine RL.ev (.assign rfl) rfl rfl ?_
      refine RL.ev (.assign rfl) rfl rfl ?_
      refine RL.nil (RC.back ?_)
      refine RC.done (rs := [.cell 4 25, .tmp 5, .tmp 6]) (vs := [_, _, _]) rfl rfl ⟨⟨_, rfl, .inr ⟨[.slice none 0 0, .slice none 0 0, .slice none 0 0, .slice none 0 0], sh25, hb_4.row, rfl⟩⟩, rfl, rfl, trivial⟩ ?_
      -- end 2
      exact ⟨S, .inr ⟨fun e => g23 e.2, rfl⟩⟩
    ·
      have g23 : ∀ o ∈ ops, okP o := (fun x hx => by have q := h7; rw [List.any_eq_false] at q; have := q x hx; simpa using this)
      have hok : runOk m ops := ⟨g15, g23⟩
      refine RC.skip (RC.back ?_)
      refine RC.seq ?_
      refine RC.region rfl ?_
      refine RL.ev (.assign rfl) rfl rfl ?_
      refine RL.nil (RC.back ?_)
      refine RC.seq ?_
      refine RC.seq ?_
      refine RC.region rfl ?_
      refine RL.ev (.move rfl) rfl rfl ?_
      refine RL.ev (.len sl26 rfl) rfl rfl ?_
      refine RL.ev (.move rfl) rfl rfl ?_
      refine RL.nil (RC.back ?_)
      refine RC.block ?_
      refine RC.loop (α := Nat × (Mo × List ResT) × Ph × (Nat → Prop) × Option Addr × Nat) (fun x => [(2, .pointer (some ⟨b_2, 0, none⟩)), (4, .pointer (some ⟨b_4, 0, none⟩)), (7, .slice x.2.2.2.2.1 (x.2.1.2.map ResT.cells).length x.2.2.2.2.2), (25, .slice pa ops.length pc), (26, .int .i64 (ops.length : Int)), (27, .int .i64 (x.1 : Int))]) (fun x w9 => (x.1 ≤ ops.length ∧ x.2.1 = runM m (ops.take x.1)) ∧ RunI b_2 b_4 w w9 M x.2.1 x.2.2.1 x.2.2.2.1 x.2.2.2.2.1 x.2.2.2.2.2) (fun x => ops.length - x.1) (0, (m, []), p, M, none, 0) (keep_of (by repeat (first | exact trivial | refine And.intro rfl ?_))) (⟨⟨Nat.zero_le _, rfl⟩, ⟨hb_2, hb_4, hF, hs, Ows.nil _ _ _ _, d_hF_b_2, d_hF_b_4, fun k hk => obNil hk, fun k hk => obNil hk, fun k hk => obNil hk, Up.refl _ _, S⟩⟩) (fun x w9 hJ => ?_)
      obtain ⟨i, cur, p', M', a7, c7⟩ := x; obtain ⟨⟨hi, hcur⟩, ⟨hb_2, hb_4, hF, hs', o7, d1, d2, d3, d4, d5, hup, S⟩⟩ := hJ; simp only [] at hi hcur hb_2 hb_4 hF hs' o7 d1 d2 d3 d4 d5 hup; have szB := S.size; have hrl : cur.2.length = i := (by rw [hcur, runM_len, List.length_take]; omega)
      refine RC.seq ?_
      refine RC.region rfl ?_
      refine RL.ev (.bin rfl rfl rfl) rfl rfl ?_
      refine RL.nil (RC.back ?_)
      refine RC.seq ?_
      refine RC.cond_dec rfl (fun h10 => ?_) (fun h10 => ?_)
      ·
        obtain ⟨o, hx⟩ := getSome (l := ops) (i := i) (by omega)
        have hxm := List.mem_of_getElem? hx
        have hst := runM_step (m := m) hx
        rw [← hcur] at hst
        have hRc : rightM cur.1 := (hcur ▸ rightM_run (hok.take i))
        refine RC.skip (RC.back ?_)
        refine RC.seq ?_
        refine RC.block ?_
        refine RC.seq ?_
        refine RC.region rfl ?_
        refine RL.ev (.indexS sl26 rfl rfl (by omega) (ho.is (i := 0) (by simp only [List.length_map, List.length_cons, List.length_nil]; omega))) rfl rfl ?_
        refine RL.ev (.loadR (o.cells) sh34 rfl ((ho.sub S).rowAt (enc := OpT.cells) (i := i) hx) rfl) rfl rfl ?_
        refine RL.alloc ze34 rfl rfl (fun b_9 w_9 e_9 z_9 hb_9 s_9 => ?_)
        have ge_9 := S.le e_9
        have n_2__9 := hb_2.ne e_9
        have n_4__9 := hb_4.ne e_9
        have d_hF_b_9 := hF.neNew e_9
        have d_o7_b_9 := o7.neNew e_9
        have S := S.trans s_9
        have hb_2 := hb_2.sub s_9
        have hb_4 := hb_4.sub s_9
        have hF := hF.sub s_9
        have o7 := o7.sub s_9
        have szB := Nat.le_trans szB s_9.size
        refine RL.store sh34 rfl rfl rfl hb_9 (by exact Nat.le_of_ble_eq_true rfl) (by rfl) rfl (fun w11 z11 hb_9 a11 => ?_)
        have S := S.upd a11 ge_9
        have hb_2 := hb_2.upd a11 n_2__9
        have hb_4 := hb_4.upd a11 n_4__9
        have hF := hF.updD a11 d_hF_b_9
        have o7 := o7.updD a11 d_o7_b_9
        have szB := Nat.le_trans szB a11.size
        have hb_9 : Has w11 b_9 (o.cells) _ := hb_9.now (by kernel_rfl)
        refine RL.nil (RC.back ?_)
        refine RC.seq ?_
        refine RC.region rfl ?_
        refine RL.ev (.loadR ([.slice p'.a1 cur.1.map.length p'.c1, .slice p'.a2 cur.1.tab.length p'.c2, .slice p'.a3 cur.1.row.length p'.c3, .slice p'.a4 cur.1.heap.length p'.c4]) sh25 rfl hb_2.row rfl) rfl rfl ?_
        refine RL.ev (.loadR (o.cells) sh34 rfl hb_9.row rfl) rfl rfl ?_
        refine RL.call rfl ok26 (c_do p' cur.1 hs' hRc o (g23 o hxm) w11 M' hF) rfl rfl ?_
        rintro _ w12 ⟨s13, p2, M2, rfl, hs2, hF2, hup2⟩
        have d_hF2_b_2 := upNe hup2 d1 hb_2.lt
        have d_hF2_b_4 := upNe hup2 d2 hb_4.lt
        have dd_o7_hF2 := upDD hup2 d5 (fun k hk => (o7.ge k hk).2)
        have d_hF2_b_9 := upNe hup2 d_hF_b_9 hb_9.lt
        have d_o7_hF2 := upDD hup2 d5 (fun k hk => (o7.ge k hk).2)
        have hup2 := hup.trans (hup2.le S.size)
        have S := S.trans s13
        have hb_2 := hb_2.sub s13
        have hb_4 := hb_4.sub s13
        have hF := hF.sub s13
        have o7 := o7.sub s13
        have szB := Nat.le_trans szB s13.size
        have hb_9 := hb_9.sub s13
        refine RL.ev (.move rfl) rfl rfl ?_
        refine RL.ev (.extract rfl rfl) rfl rfl ?_
        refine RL.ev (.extract rfl rfl) rfl rfl ?_
        refine RL.alloc ze25 rfl rfl (fun b_10 w_10 e_10 z_10 hb_10 s_10 => ?_)
        have ge_10 := S.le e_10
        have n_2__10 := hb_2.ne e_10
        have n_4__10 := hb_4.ne e_10
        have n_9__10 := hb_9.ne e_10
        have d_o7_b_10 := o7.neNew e_10
        have d_hF2_b_10 := hF2.neNew e_10
        have S := S.trans s_10
        have hb_2 := hb_2.sub s_10
        have hb_4 := hb_4.sub s_10
        have o7 := o7.sub s_10
        have szB := Nat.le_trans szB s_10.size
        have hb_9 := hb_9.sub s_10
        have hF2 := hF2.sub s_10
        refine RL.alloc ze39 rfl rfl (fun b_11 w_11 e_11 z_11 hb_11 s_11 => ?_)
        have ge_11 := S.le e_11
        have n_2__11 := hb_2.ne e_11
        have n_4__11 := hb_4.ne e_11
        have n_9__11 := hb_9.ne e_11
        have n_10__11 := hb_10.ne e_11
        have d_o7_b_11 := o7.neNew e_11
        have d_hF2_b_11 := hF2.neNew e_11
        have S := S.trans s_11
        have hb_2 := hb_2.sub s_11
        have hb_4 := hb_4.sub s_11
        have o7 := o7.sub s_11
        have szB := Nat.le_trans szB s_11.size
        have hb_9 := hb_9.sub s_11
        have hF2 := hF2.sub s_11
        have hb_10 := hb_10.sub s_11
        refine RL.store sh25 rfl rfl rfl hb_10 (by exact Nat.le_of_ble_eq_true rfl) (by rfl) rfl (fun w14 z14 hb_10 a14 => ?_)
        have S := S.upd a14 ge_10
        have hb_2 := hb_2.upd a14 n_2__10
        have hb_4 := hb_4.upd a14 n_4__10
        have o7 := o7.updD a14 d_o7_b_10
        have szB := Nat.le_trans szB a14.size
        have hb_9 := hb_9.upd a14 n_9__10
        have hF2 := hF2.updD a14 d_hF2_b_10
        have hb_11 := hb_11.upd a14 n_10__11.symm
        have hb_10 : Has w14 b_10 ([.slice p2.a1 (doM cur.1 o).1.map.length p2.c1, .slice p2.a2 (doM cur.1 o).1.tab.length p2.c2, .slice p2.a3 (doM cur.1 o).1.row.length p2.c3, .slice p2.a4 (doM cur.1 o).1.heap.length p2.c4]) _ := hb_10.now (by kernel_rfl)
        refine RL.store sh39 rfl rfl rfl hb_11 (by exact Nat.le_of_ble_eq_true rfl) (by rfl) rfl (fun w15 z15 hb_11 a15 => ?_)
        have S := S.upd a15 ge_11
        have hb_2 := hb_2.upd a15 n_2__11
        have hb_4 := hb_4.upd a15 n_4__11
        have o7 := o7.updD a15 d_o7_b_11
        have szB := Nat.le_trans szB a15.size
        have hb_9 := hb_9.upd a15 n_9__11
        have hF2 := hF2.updD a15 d_hF2_b_11
        have hb_10 := hb_10.upd a15 n_10__11
        have hb_11 : Has w15 b_11 ((doM cur.1 o).2.cells) _ := hb_11.now (by kernel_rfl)
        refine RL.nil (RC.back ?_)
        refine RC.drawD (fun k => k = b_2 ∨ ob (.slice a7 (cur.2.map ResT.cells).length c7) = some k) [5, 4] w15.heap.size 7 rfl rfl mxo (fun w16 s17 => ?_)
        have hNN : ∀ k, ((k = b_2 ∨ ob (.slice a7 (cur.2.map ResT.cells).length c7) = some k) ∨ w15.heap.size ≤ k) → w.heap.size ≤ k := fun k e => e.elim (fun e => e.elim (fun e => e ▸ ge_2) (fun e => Nat.le_trans (by omega) (o7.ge k e).1)) (fun e => Nat.le_trans S.size e)
        have ent_S := S.size
        have hN0 : ∀ k, w15.heap.size ≤ k → w.heap.size ≤ k := fun k e => Nat.le_trans S.size e
        have ltD_b_2 := hb_2.lt
        have ltD_b_4 := hb_4.lt
        have ltD_o7 := fun k hk => (o7.ge k hk).2
        have ltD_b_9 := hb_9.lt
        have ltD_hF2 := fun k hk => (hF2.ge k hk).2
        have ltD_b_10 := hb_10.lt
        have ltD_b_11 := hb_11.lt
        have szD := Nat.le_refl w15.heap.size
        have S := S.trans s17
        have hb_2 := hb_2.sub s17
        have hb_4 := hb_4.sub s17
        have o7 := o7.sub s17
        have szB := Nat.le_trans szB s17.size
        have hb_9 := hb_9.sub s17
        have hF2 := hF2.sub s17
        have hb_10 := hb_10.sub s17
        have hb_11 := hb_11.sub s17
        have szD := Nat.le_trans szD s17.size
        refine RD.take 0 rfl (by kernel_rfl) (by kernel_rfl) (by kernel_rfl) (fun w' s' => .loadR ([.slice p2.a1 (doM cur.1 o).1.map.length p2.c1, .slice p2.a2 (doM cur.1 o).1.tab.length p2.c2, .slice p2.a3 (doM cur.1 o).1.row.length p2.c3, .slice p2.a4 (doM cur.1 o).1.heap.length p2.c4]) sh25 rfl (hb_10.step s' (fun e => e.elim (fun e => e.elim (fun e => n_2__10.symm e) (fun e => d_o7_b_10 _ e rfl)) (fun e => Nat.not_le.2 ltD_b_10 e))).row rfl) rfl rfl ?_
        refine RD.take 1 rfl (by kernel_rfl) (by kernel_rfl) (by kernel_rfl) (fun w' s' => .move rfl) rfl rfl ?_
        refine RD.take 2 rfl (by kernel_rfl) (by kernel_rfl) (by kernel_rfl) (fun w' s' => .loadR ((doM cur.1 o).2.cells) sh39 rfl (hb_11.step s' (fun e => e.elim (fun e => e.elim (fun e => n_2__11.symm e) (fun e => d_o7_b_11 _ e rfl)) (fun e => Nat.not_le.2 ltD_b_11 e))).row rfl) rfl rfl ?_
        refine RD.all [3] (by kernel_rfl) rfl (RDs.cons rfl ?_ (RDs.nil))
        refine RL.buildSlice1 sl28 _ ze39 rfl rfl rfl rfl rfl rfl rfl (fun b_40 w_40 e_40 z_40 hb_40 s_40 => ?_)
        have fr_b_40 : w15.heap.size ≤ b_40 := by rw [e_40]; exact szD
        have ge_40 := S.le e_40
        have n_2__40 := hb_2.ne e_40
        have n_4__40 := hb_4.ne e_40
        have n_9__40 := hb_9.ne e_40
        have n_10__40 := hb_10.ne e_40
        have n_11__40 := hb_11.ne e_40
        have d_o7_b_40 := o7.neNew e_40
        have d_hF2_b_40 := hF2.neNew e_40
        have S := S.trans s_40
        have hb_2 := hb_2.sub s_40
        have hb_4 := hb_4.sub s_40
        have o7 := o7.sub s_40
        have szB := Nat.le_trans szB s_40.size
        have hb_9 := hb_9.sub s_40
        have hF2 := hF2.sub s_40
        have hb_10 := hb_10.sub s_40
        have hb_11 := hb_11.sub s_40
        have szD := Nat.le_trans szD s_40.size
        refine RD.back s_40.agr ?_
        refine RD.all [4] (by kernel_rfl) rfl (RDs.cons rfl ?_ (RDs.nil))
        have sz_41 := S.size
        have ltb_2_41 := hb_2.lt
        have ltb_4_41 := hb_4.lt
        have ltb_9_41 := hb_9.lt
        have ltb_10_41 := hb_10.lt
        have ltb_11_41 := hb_11.lt
        have ltb_40_41 := hb_40.lt
        refine RL.append2 (base := w.heap.size) (rows := cur.2.map ResT.cells) (news := [_]) sl28 ze39 rfl rfl rfl rfl (.inl o7) (Has.slOne hb_40) rfl (by intro r hr; rw [List.mem_singleton] at hr; subst hr; rfl) rfl (by (try simp only [List.length_map, List.length_nil, List.length_append, List.length_cons]); omega) (by (try simp only [List.length_map, List.length_nil, List.length_append, List.length_cons]); omega) (by omega) rfl rfl (fun v_41 w_41 hc_41 ho_41 ag_41 ob_41 => ?_)
        have o41 := ho_41 (.inl (by simp))
        rw [show _ ++ [_] = ((cur.2 ++ [(doM cur.1 o).2]).map ResT.cells) from by rw [List.map_append]; rfl] at o41
        have d_o41_b_2 := obNe ob_41 d3 hb_2.lt
        have d_o41_b_4 := obNe ob_41 d4 hb_4.lt
        have d_o41_b_9 := obNe ob_41 d_o7_b_9 hb_9.lt
        have dd_o41_hF2 := obDF ob_41 d_o7_hF2 (fun k hk => (hF2.ge k hk).2)
        have d_o41_b_10 := obNe ob_41 d_o7_b_10 hb_10.lt
        have d_o41_b_11 := obNe ob_41 d_o7_b_11 hb_11.lt
        have S := S.agrN ag_41 (fun k e => Nat.le_trans (by omega) e.2)
        have hb_2 := hb_2.step ag_41 (fun e => d3 _ e.1 rfl)
        have hb_4 := hb_4.step ag_41 (fun e => d4 _ e.1 rfl)
        have szB := Nat.le_trans szB ag_41.size
        have hb_9 := hb_9.step ag_41 (fun e => d_o7_b_9 _ e.1 rfl)
        have hF2 := hF2.step ag_41 (fun k hk e => d_o7_hF2 k e.1 hk)
        have hb_10 := hb_10.step ag_41 (fun e => d_o7_b_10 _ e.1 rfl)
        have hb_11 := hb_11.step ag_41 (fun e => d_o7_b_11 _ e.1 rfl)
        have szD := Nat.le_trans szD ag_41.size
        obtain ⟨a_41, c_41, rfl, k_41⟩ := o41.form
        refine RD.backW rfl (ag_41.mono fun k _ e => .inl (.inr (e.1))) ?_
        refine RD.all [5] (by kernel_rfl) rfl (RDs.cons rfl ?_ (RDs.nil))
        refine RL.store sh25 rfl rfl rfl hb_2 (by exact Nat.le_of_ble_eq_true rfl) (by rfl) rfl (fun w18 z18 hb_2 a18 => ?_)
        have S := S.upd a18 ge_2
        have hb_4 := hb_4.upd a18 n_2__4.symm
        have szB := Nat.le_trans szB a18.size
        have hb_9 := hb_9.upd a18 n_2__9.symm
        have hF2 := hF2.updD a18 d_hF2_b_2
        have hb_10 := hb_10.upd a18 n_2__10.symm
        have hb_11 := hb_11.upd a18 n_2__11.symm
        have szD := Nat.le_trans szD a18.size
        have o41 := o41.updD a18 d_o41_b_2
        have hb_2 : Has w18 b_2 ([.slice p2.a1 (doM cur.1 o).1.map.length p2.c1, .slice p2.a2 (doM cur.1 o).1.tab.length p2.c2, .slice p2.a3 (doM cur.1 o).1.row.length p2.c3, .slice p2.a4 (doM cur.1 o).1.heap.length p2.c4]) _ := hb_2.now (by kernel_rfl)
        refine RD.backW rfl (a18.mono fun k _ e => e ▸ (.inl (.inl rfl))) ?_
        refine RD.take 6 rfl (by kernel_rfl) (by kernel_rfl) (by kernel_rfl) (fun w' s' => .assign rfl) rfl rfl ?_
        refine RD.done (by kernel_rfl) (RC.back ?_)
        refine RC.region rfl ?_
        refine RL.ev (.as (.bin rfl rfl rfl) (wi64 (y := ((i + 1 : Nat) : Int)) (by omega) (by omega))) rfl rfl ?_
        refine RL.ev (.move rfl) rfl rfl ?_
        exact RL.nil (fun a ka => ⟨(i + 1, ((doM cur.1 o).1, cur.2 ++ [(doM cur.1 o).2]), p2, M2, a_41, c_41), ⟨⟨by omega, by rw [hst]⟩, ⟨hb_2, hb_4, hF2, hs2, o41, d_hF2_b_2, d_hF2_b_4, d_o41_b_2, d_o41_b_4, dd_o41_hF2, hup2, S⟩⟩, by omega, ka.keep (keep_of (by repeat (first | exact trivial | refine And.intro rfl ?_)))⟩)
      ·
        obtain rfl : i = ops.length := (by omega)
        rw [List.take_length] at hcur
        refine RC.exit rfl (RC.back ?_)
        refine RC.seq ?_
        refine RC.region rfl ?_
        refine RL.ev (.loadR ([.slice p'.a1 cur.1.map.length p'.c1, .slice p'.a2 cur.1.tab.length p'.c2, .slice p'.a3 cur.1.row.length p'.c3, .slice p'.a4 cur.1.heap.length p'.c4]) sh25 rfl hb_2.row rfl) rfl rfl ?_
        refine RL.ev (.move rfl) rfl rfl ?_
        refine RL.store sh25 rfl rfl rfl hb_4 (by exact Nat.le_of_ble_eq_true rfl) (by rfl) rfl (fun w19 z19 hb_4 a19 => ?_)
        have S := S.upd a19 ge_4
        have hb_2 := hb_2.upd a19 n_2__4
        have hF := hF.updD a19 d2
        have o7 := o7.updD a19 d4
        have szB := Nat.le_trans szB a19.size
        have hb_4 : Has w19 b_4 ([.slice p'.a1 cur.1.map.length p'.c1, .slice p'.a2 cur.1.tab.length p'.c2, .slice p'.a3 cur.1.row.length p'.c3, .slice p'.a4 cur.1.heap.length p'.c4]) _ := hb_4.now (by kernel_rfl)
        refine RL.ev (.assign rfl) rfl rfl ?_
        refine RL.ev (.assign rfl) rfl rfl ?_
        refine RL.nil (RC.back ?_)
        refine RC.done (rs := [.cell 4 25, .tmp 5, .tmp 6]) (vs := [_, _, _]) rfl rfl ⟨⟨_, rfl, .inr ⟨[.slice p'.a1 cur.1.map.length p'.c1, .slice p'.a2 cur.1.tab.length p'.c2, .slice p'.a3 cur.1.row.length p'.c3, .slice p'.a4 cur.1.heap.length p'.c4], sh25, hb_4.row, rfl⟩⟩, rfl, rfl, trivial⟩ ?_
        -- end 3
        exact ⟨S, .inl ⟨hok, p', M', a7, c7, by rw [← hcur]; rfl, by rw [← hcur]; exact hs', by rw [← hcur]; exact hF, hup, by rw [← hcur]; exact o7, by rw [← hcur]; exact d5⟩⟩
end Go.Proofs.Ytjafbffehmombaa
