/-
  The statement ModelDoes.
-/
import Derived.Test.YtjafbffehmombaaModelLaws
set_option linter.unusedVariables false
set_option linter.unusedSimpArgs false
namespace Go.Proofs.Ytjafbffehmombaa
open Go Go.XL

theorem _root_.Go.XL.FC.yes {P : Program} {f : FuncId} {args : List Value} {w : World} {q : Prop} [Decidable q] (h : FC P f args w (Val (.bool (decide q)) w)) (hq : q) : FC P f args w (Val (.bool true) w) := by rwa [decide_eq_true hq] at h
theorem _root_.Go.XL.FC.yesB {P : Program} {f : FuncId} {args : List Value} {w : World} {b : Bool} (h : FC P f args w (Val (.bool b) w)) (hq : b = true) : FC P f args w (Val (.bool true) w) := by rwa [hq] at h
theorem AnsDo.out {M : Nat → Prop} {w w' : World} {m : Mo} {o : OpT} {u : Value} (h : AnsDo M w w' m o u) : Sub w w' ∧ ∃ p' r1 r2 e M', u = .tuple #[moV p' r1, .agg (r2 : ResT).cells.toArray, .int .i64 e] ∧ MoS p' r1 ∧ Ft M' (fun u => MoR u p' r1) w' ∧ Up M w M' ∧ ((rightM m ∧ okP o) → r1 = (doM m o).1 ∧ r2 = (doM m o).2 ∧ e = 0) ∧ (¬ (rightM m ∧ okP o) → r1 = m0 ∧ r2 = res0 ∧ e = 1) := by
  obtain ⟨s, p', M', h1, h2, h3, h4⟩ := h
  refine ⟨s, p', _, _, _, M', h1, h2, h3, h4, fun g => ?_, fun g => ?_⟩
  · rw [pB_yes g]; exact ⟨rfl, rfl, rfl⟩
  · rw [pB_no g]; exact ⟨rfl, rfl, rfl⟩
theorem eqL_res (r s : ResT) (h : r = s) : eqL r.cells s.cells = true := by subst h; simp [ResT.cells, eqL, eq1]
def sameM (m n : Mo) : Prop := m.map = n.map ∧ m.tab = n.tab ∧ m.row = n.row ∧ m.heap = n.heap
theorem sameM_of {m n : Mo} (h : m = n) : m.map = n.map ∧ m.tab = n.tab ∧ m.row = n.row ∧ m.heap = n.heap := by subst h; exact ⟨rfl, rfl, rfl, rfl⟩
set_option maxHeartbeats 1000000 in
theorem law_ModelDoes (w : World) (p : Ph) (m : Mo) (hc : m.map.length ≤ p.c1 ∧ m.tab.length ≤ p.c2 ∧ m.row.length ≤ p.c3 ∧ m.heap.length ≤ p.c4) (hR : MoR w p m) (q : Ph) (n : Mo) (hd : n.map.length ≤ q.c1 ∧ n.tab.length ≤ q.c2 ∧ n.row.length ≤ q.c3 ∧ n.heap.length ≤ q.c4) (hT : MoR w q n) (o : OpT) (ho : o.ok) :
    FC Try.prog 11 [moV p m, moV q n, .agg o.cells.toArray] w (Val (.bool true) w) := by
  have hRf := fewM_R hR
  have hTf := fewM_R hT
  have hSf := fewM_S hc
  have hSg := fewM_S hd
  have hF0 := Ft.of_sub fun u s => hRf.sub s
  obtain ⟨f, hf⟩ : ∃ f, f = fewM m := ⟨_, rfl⟩
  obtain ⟨g, hg⟩ : ∃ g, g = fewM n := ⟨_, rfl⟩
  rw [← hf] at hRf hSf hF0
  rw [← hg] at hTf hSg
  refine FC.intro Try.func11 rfl Try.ntmps11 rfl ?_
  have S := Sub.refl w
  refine RC.seq ?_
  refine RC.region rfl ?_
  refine RL.box rfl rfl rfl (fun b_3 w_3 e_3 z_3 hb_3 s_3 => ?_)
  have ge_3 := S.le e_3
  have d_hF0_b_3 := hF0.neNew e_3
  have S := S.trans s_3
  have hF0 := hF0.sub s_3
  have hb_3 : Has w_3 b_3 ([.slice p.a1 m.map.length p.c1, .slice p.a2 m.tab.length p.c2, .slice p.a3 m.row.length p.c3, .slice p.a4 m.heap.length p.c4]) _ := hb_3
  refine RL.box rfl rfl rfl (fun b_4 w_4 e_4 z_4 hb_4 s_4 => ?_)
  have ge_4 := S.le e_4
  have n_3__4 := hb_3.ne e_4
  have d_hF0_b_4 := hF0.neNew e_4
  have S := S.trans s_4
  have hF0 := hF0.sub s_4
  have hb_3 := hb_3.sub s_4
  have hb_4 : Has w_4 b_4 ([.slice q.a1 n.map.length q.c1, .slice q.a2 n.tab.length q.c2, .slice q.a3 n.row.length q.c3, .slice q.a4 n.heap.length q.c4]) _ := hb_4
  refine RL.box rfl rfl rfl (fun b_5 w_5 e_5 z_5 hb_5 s_5 => ?_)
  have ge_5 := S.le e_5
  have n_3__5 := hb_3.ne e_5
  have n_4__5 := hb_4.ne e_5
  have d_hF0_b_5 := hF0.neNew e_5
  have S := S.trans s_5
  have hF0 := hF0.sub s_5
  have hb_3 := hb_3.sub s_5
  have hb_4 := hb_4.sub s_5
  have hb_5 : Has w_5 b_5 ([.int .i64 o.box, .int .i64 o.kind, .int .i64 o.a, .int .i64 o.b]) _ := hb_5
  refine RL.ev (.assign rfl) rfl rfl ?_
  refine RL.nil (RC.back ?_)
  refine RC.cutx (α := Unit) (fun _ => [(3, .pointer (some ⟨b_3, 0, none⟩)), (4, .pointer (some ⟨b_4, 0, none⟩)), (5, .pointer (some ⟨b_5, 0, none⟩)), (6, .bool false)]) (fun _ w1 => Has w1 b_3 [.slice p.a1 f.map.length p.c1, .slice p.a2 f.tab.length p.c2, .slice p.a3 f.row.length p.c3, .slice p.a4 f.heap.length p.c4] 25 ∧ Has w1 b_4 [.slice q.a1 g.map.length q.c1, .slice q.a2 g.tab.length q.c2, .slice q.a3 g.row.length q.c3, .slice q.a4 g.heap.length q.c4] 25 ∧ Has w1 b_5 [.int .i64 o.box, .int .i64 o.kind, .int .i64 o.a, .int .i64 o.b] 34 ∧ Ft (· < w.heap.size) (fun u => MoR u p f) w1 ∧ Sub w w1) ?_ (fun _ w1 hJ => ?_)
  ·
    refine RC.drawD (fun k => k = b_3 ∨ k = b_4) [4, 5] w_5.heap.size 6 rfl rfl mxo (fun w2 s3 => ?_)
    have hNN : ∀ k, ((k = b_3 ∨ k = b_4) ∨ w_5.heap.size ≤ k) → w.heap.size ≤ k := fun k e => e.elim (fun e => e.elim (fun e => e ▸ ge_3) (fun e => e ▸ ge_4)) (fun e => Nat.le_trans S.size e)
    have ent_S := S.size
    have hN0 : ∀ k, w_5.heap.size ≤ k → w.heap.size ≤ k := fun k e => Nat.le_trans S.size e
    have ltD_hF0 := fun k hk => (hF0.ge k hk).2
    have ltD_b_3 := hb_3.lt
    have ltD_b_4 := hb_4.lt
    have ltD_b_5 := hb_5.lt
    have szD := Nat.le_refl w_5.heap.size
    have S := S.trans s3
    have hF0 := hF0.sub s3
    have hb_3 := hb_3.sub s3
    have hb_4 := hb_4.sub s3
    have hb_5 := hb_5.sub s3
    have szD := Nat.le_trans szD s3.size
    refine RD.takeL 0 rfl (by kernel_rfl) (by kernel_rfl) (by kernel_rfl) (by kernel_rfl) (fun w' s' => .loadR ([.slice p.a1 m.map.length p.c1, .slice p.a2 m.tab.length p.c2, .slice p.a3 m.row.length p.c3, .slice p.a4 m.heap.length p.c4]) sh25 rfl (hb_3.step s' (fun e => Nat.not_le.2 ltD_b_3 e)).row rfl) rfl rfl ?_
    refine RD.all [1, 2] (by kernel_rfl) rfl (RDs.cons rfl ?_ (RDs.cons rfl ?_ (RDs.nil)))
    ·
      refine RL.call rfl ok12 (c_few14 p m hc w2) rfl rfl ?_
      rintro _ w4 ⟨rfl, s5⟩
      have S := S.trans s5
      have hF0 := hF0.sub s5
      have hb_3 := hb_3.sub s5
      have hb_4 := hb_4.sub s5
      have hb_5 := hb_5.sub s5
      have szD := Nat.le_trans szD s5.size
      refine RD.back s5.agr ?_
      refine RD.all [2] (by kernel_rfl) rfl (RDs.cons rfl ?_ (RDs.nil))
      refine RL.ev (.loadR ([.slice q.a1 n.map.length q.c1, .slice q.a2 n.tab.length q.c2, .slice q.a3 n.row.length q.c3, .slice q.a4 n.heap.length q.c4]) sh25 rfl hb_4.row rfl) rfl rfl ?_
      refine RD.back (Agr.refl _ _) ?_
      refine RD.all [3] (by kernel_rfl) rfl (RDs.cons rfl ?_ (RDs.nil))
      refine RL.call rfl ok12 (c_few14 q n hd w4) rfl rfl ?_
      rintro _ w6 ⟨rfl, s7⟩
      have S := S.trans s7
      have hF0 := hF0.sub s7
      have hb_3 := hb_3.sub s7
      have hb_4 := hb_4.sub s7
      have hb_5 := hb_5.sub s7
      have szD := Nat.le_trans szD s7.size
      refine RD.back s7.agr ?_
      refine RD.all [4] (by kernel_rfl) rfl (RDs.cons rfl ?_ (RDs.nil))
      refine RL.store sh25 rfl rfl rfl hb_3 (by exact Nat.le_of_ble_eq_true rfl) (by rfl) rfl (fun w8 z8 hb_3 a8 => ?_)
      have S := S.upd a8 ge_3
      have hF0 := hF0.updD a8 d_hF0_b_3
      have hb_4 := hb_4.upd a8 n_3__4.symm
      have hb_5 := hb_5.upd a8 n_3__5.symm
      have szD := Nat.le_trans szD a8.size
      have hb_3 : Has w8 b_3 ([.slice p.a1 (fewM m).map.length p.c1, .slice p.a2 (fewM m).tab.length p.c2, .slice p.a3 (fewM m).row.length p.c3, .slice p.a4 (fewM m).heap.length p.c4]) _ := hb_3.now (by kernel_rfl)
      refine RD.backW rfl (a8.mono fun k _ e => e ▸ (.inl (.inl rfl))) ?_
      refine RD.all [5] (by kernel_rfl) rfl (RDs.cons rfl ?_ (RDs.nil))
      refine RL.store sh25 rfl rfl rfl hb_4 (by exact Nat.le_of_ble_eq_true rfl) (by rfl) rfl (fun w9 z9 hb_4 a9 => ?_)
      have S := S.upd a9 ge_4
      have hF0 := hF0.updD a9 d_hF0_b_4
      have hb_3 := hb_3.upd a9 n_3__4
      have hb_5 := hb_5.upd a9 n_4__5.symm
      have szD := Nat.le_trans szD a9.size
      have hb_4 : Has w9 b_4 ([.slice q.a1 (fewM n).map.length q.c1, .slice q.a2 (fewM n).tab.length q.c2, .slice q.a3 (fewM n).row.length q.c3, .slice q.a4 (fewM n).heap.length q.c4]) _ := hb_4.now (by kernel_rfl)
      refine RD.backW rfl (a9.mono fun k _ e => e ▸ (.inl (.inr (rfl)))) ?_
      exact RD.done (by kernel_rfl) (fun a ka => ⟨(), ⟨hf ▸ hb_3, hg ▸ hb_4, hb_5, hF0, S⟩, ka.keep (keep_of (by repeat (first | exact trivial | refine And.intro rfl ?_)))⟩)
    ·
      refine RL.ev (.loadR ([.slice q.a1 n.map.length q.c1, .slice q.a2 n.tab.length q.c2, .slice q.a3 n.row.length q.c3, .slice q.a4 n.heap.length q.c4]) sh25 rfl hb_4.row rfl) rfl rfl ?_
      refine RD.back (Agr.refl _ _) ?_
      refine RD.all [1] (by kernel_rfl) rfl (RDs.cons rfl ?_ (RDs.nil))
      refine RL.call rfl ok12 (c_few14 p m hc w2) rfl rfl ?_
      rintro _ w10 ⟨rfl, s11⟩
      have S := S.trans s11
      have hF0 := hF0.sub s11
      have hb_3 := hb_3.sub s11
      have hb_4 := hb_4.sub s11
      have hb_5 := hb_5.sub s11
      have szD := Nat.le_trans szD s11.size
      refine RD.back s11.agr ?_
      refine RD.all [3] (by kernel_rfl) rfl (RDs.cons rfl ?_ (RDs.nil))
      refine RL.call rfl ok12 (c_few14 q n hd w10) rfl rfl ?_
      rintro _ w12 ⟨rfl, s13⟩
      have S := S.trans s13
      have hF0 := hF0.sub s13
      have hb_3 := hb_3.sub s13
      have hb_4 := hb_4.sub s13
      have hb_5 := hb_5.sub s13
      have szD := Nat.le_trans szD s13.size
      refine RD.back s13.agr ?_
      refine RD.all [4] (by kernel_rfl) rfl (RDs.cons rfl ?_ (RDs.nil))
      refine RL.store sh25 rfl rfl rfl hb_3 (by exact Nat.le_of_ble_eq_true rfl) (by rfl) rfl (fun w14 z14 hb_3 a14 => ?_)
      have S := S.upd a14 ge_3
      have hF0 := hF0.updD a14 d_hF0_b_3
      have hb_4 := hb_4.upd a14 n_3__4.symm
      have hb_5 := hb_5.upd a14 n_3__5.symm
      have szD := Nat.le_trans szD a14.size
      have hb_3 : Has w14 b_3 ([.slice p.a1 (fewM m).map.length p.c1, .slice p.a2 (fewM m).tab.length p.c2, .slice p.a3 (fewM m).row.length p.c3, .slice p.a4 (fewM m).heap.length p.c4]) _ := hb_3.now (by kernel_rfl)
      refine RD.backW rfl (a14.mono fun k _ e => e ▸ (.inl (.inl rfl))) ?_
      refine RD.all [5] (by kernel_rfl) rfl (RDs.cons rfl ?_ (RDs.nil))
      refine RL.store sh25 rfl rfl rfl hb_4 (by exact Nat.le_of_ble_eq_true rfl) (by rfl) rfl (fun w15 z15 hb_4 a15 => ?_)
      have S := S.upd a15 ge_4
      have hF0 := hF0.updD a15 d_hF0_b_4
      have hb_3 := hb_3.upd a15 n_3__4
      have hb_5 := hb_5.upd a15 n_4__5.symm
      have szD := Nat.le_trans szD a15.size
      have hb_4 : Has w15 b_4 ([.slice q.a1 (fewM n).map.length q.c1, .slice q.a2 (fewM n).tab.length q.c2, .slice q.a3 (fewM n).row.length q.c3, .slice q.a4 (fewM n).heap.length q.c4]) _ := hb_4.now (by kernel_rfl)
      refine RD.backW rfl (a15.mono fun k _ e => e ▸ (.inl (.inr (rfl)))) ?_
      exact RD.done (by kernel_rfl) (fun a ka => ⟨(), ⟨hf ▸ hb_3, hg ▸ hb_4, hb_5, hF0, S⟩, ka.keep (keep_of (by repeat (first | exact trivial | refine And.intro rfl ?_)))⟩)
  obtain ⟨hb_3, hb_4, hb_5, hF0, S⟩ := hJ
  refine RC.seq ?_
  refine RC.region rfl ?_
  refine RL.ev (.loadR ([.slice p.a1 f.map.length p.c1, .slice p.a2 f.tab.length p.c2, .slice p.a3 f.row.length p.c3, .slice p.a4 f.heap.length p.c4]) sh25 rfl hb_3.row rfl) rfl rfl ?_
  refine RL.ev (.loadR ([.int .i64 o.box, .int .i64 o.kind, .int .i64 o.a, .int .i64 o.b]) sh34 rfl hb_5.row rfl) rfl rfl ?_
  refine RL.call rfl ok20 (c_Do p f hSf o w1 _ hF0) rfl rfl ?_
  rintro _ w16 ⟨_, h18⟩
  obtain ⟨s17, p', r1, r2, e, M', rfl, hs', hF', hup, hy, hn⟩ := AnsDo.out ⟨‹_›, h18⟩
  have d_hF'_b_3 := upNe hup d_hF0_b_3 hb_3.lt
  have d_hF'_b_4 := upNe hup d_hF0_b_4 hb_4.lt
  have d_hF'_b_5 := upNe hup d_hF0_b_5 hb_5.lt
  have S := S.trans s17
  have hb_3 := hb_3.sub s17
  have hb_4 := hb_4.sub s17
  have hb_5 := hb_5.sub s17
  have hF0 := hF0.sub s17
  refine RL.ev (.move rfl) rfl rfl ?_
  refine RL.ev (.extract rfl rfl) rfl rfl ?_
  refine RL.ev (.extract rfl rfl) rfl rfl ?_
  refine RL.ev (.extract rfl rfl) rfl rfl ?_
  refine RL.alloc ze25 rfl rfl (fun b_7 w_7 e_7 z_7 hb_7 s_7 => ?_)
  have ge_7 := S.le e_7
  have n_3__7 := hb_3.ne e_7
  have n_4__7 := hb_4.ne e_7
  have n_5__7 := hb_5.ne e_7
  have d_hF0_b_7 := hF0.neNew e_7
  have d_hF'_b_7 := hF'.neNew e_7
  have S := S.trans s_7
  have hb_3 := hb_3.sub s_7
  have hb_4 := hb_4.sub s_7
  have hb_5 := hb_5.sub s_7
  have hF0 := hF0.sub s_7
  have hF' := hF'.sub s_7
  refine RL.alloc ze39 rfl rfl (fun b_8 w_8 e_8 z_8 hb_8 s_8 => ?_)
  have ge_8 := S.le e_8
  have n_3__8 := hb_3.ne e_8
  have n_4__8 := hb_4.ne e_8
  have n_5__8 := hb_5.ne e_8
  have n_7__8 := hb_7.ne e_8
  have d_hF0_b_8 := hF0.neNew e_8
  have d_hF'_b_8 := hF'.neNew e_8
  have S := S.trans s_8
  have hb_3 := hb_3.sub s_8
  have hb_4 := hb_4.sub s_8
  have hb_5 := hb_5.sub s_8
  have hF0 := hF0.sub s_8
  have hF' := hF'.sub s_8
  have hb_7 := hb_7.sub s_8
  refine RL.store sh25 rfl rfl rfl hb_7 (by exact Nat.le_of_ble_eq_true rfl) (by rfl) rfl (fun w18 z18 hb_7 a18 => ?_)
  have S := S.upd a18 ge_7
  have hb_3 := hb_3.upd a18 n_3__7
  have hb_4 := hb_4.upd a18 n_4__7
  have hb_5 := hb_5.upd a18 n_5__7
  have hF0 := hF0.updD a18 d_hF0_b_7
  have hF' := hF'.updD a18 d_hF'_b_7
  have hb_8 := hb_8.upd a18 n_7__8.symm
  refine RL.store sh39 rfl rfl rfl hb_8 (by exact Nat.le_of_ble_eq_true rfl) (by rfl) rfl (fun w19 z19 hb_8 a19 => ?_)
  have S := S.upd a19 ge_8
  have hb_3 := hb_3.upd a19 n_3__8
  have hb_4 := hb_4.upd a19 n_4__8
  have hb_5 := hb_5.upd a19 n_5__8
  have hF0 := hF0.updD a19 d_hF0_b_8
  have hF' := hF'.updD a19 d_hF'_b_8
  have hb_7 := hb_7.upd a19 n_7__8
  refine RL.ev (.assign rfl) rfl rfl ?_
  refine RL.nil (RC.back ?_)
  refine RC.seq ?_
  refine RC.seq ?_
  refine RC.draw rfl mxo (by kernel_rfl) ?_
  refine RQ.ev (.loadR ([.slice p.a1 f.map.length p.c1, .slice p.a2 f.tab.length p.c2, .slice p.a3 f.row.length p.c3, .slice p.a4 f.heap.length p.c4]) sh25 rfl hb_3.row rfl) rfl rfl ?_
  refine RQ.call rfl ok19 (fun w' s' => c_right p f hSf w' (hRf.sub (S.trans s'))) rfl rfl ?_
  refine RQ.ev (.loadR ([.slice p.a1 f.map.length p.c1, .slice p.a2 f.tab.length p.c2, .slice p.a3 f.row.length p.c3, .slice p.a4 f.heap.length p.c4]) sh25 rfl hb_3.row rfl) rfl rfl ?_
  refine RQ.call rfl ok14 (fun w' s' => c_refMRight p f hSf w' (hRf.sub (S.trans s'))) rfl rfl ?_
  refine RQ.ev (.as (v' := .bool false) (.neB bo4 rfl rfl) (congrArg Value.bool (by simp))) rfl rfl ?_
  refine RQ.ev (.move rfl) rfl rfl ?_
  refine RQ.ev (.loadR ([.slice p.a1 f.map.length p.c1, .slice p.a2 f.tab.length p.c2, .slice p.a3 f.row.length p.c3, .slice p.a4 f.heap.length p.c4]) sh25 rfl hb_3.row rfl) rfl rfl ?_
  refine RQ.ev (.loadR ([.slice q.a1 g.map.length q.c1, .slice q.a2 g.tab.length q.c2, .slice q.a3 g.row.length q.c3, .slice q.a4 g.heap.length q.c4]) sh25 rfl hb_4.row rfl) rfl rfl ?_
  refine RQ.call rfl ok22 (fun w' s' => c_MSame p f hSf q g hSg w' (hRf.sub (S.trans s')) (hTf.sub (S.trans s'))) rfl rfl ?_
  refine RQ.ev (.loadR ([.slice p.a1 f.map.length p.c1, .slice p.a2 f.tab.length p.c2, .slice p.a3 f.row.length p.c3, .slice p.a4 f.heap.length p.c4]) sh25 rfl hb_3.row rfl) rfl rfl ?_
  refine RQ.ev (.loadR ([.slice q.a1 g.map.length q.c1, .slice q.a2 g.tab.length q.c2, .slice q.a3 g.row.length q.c3, .slice q.a4 g.heap.length q.c4]) sh25 rfl hb_4.row rfl) rfl rfl ?_
  refine RQ.call rfl ok17 (fun w' s' => c_refMSame p f hSf q g hSg w' (hRf.sub (S.trans s')) (hTf.sub (S.trans s'))) rfl rfl ?_
  refine RQ.ev (.as (v' := .bool false) (.neB bo4 rfl rfl) (congrArg Value.bool (by simp))) rfl rfl ?_
  refine RQ.ev (.pick_f rfl rfl) rfl rfl ?_
  refine RQ.ev (.move rfl) rfl rfl ?_
  refine RQ.ev (.loadR ([.slice p.a1 f.map.length p.c1, .slice p.a2 f.tab.length p.c2, .slice p.a3 f.row.length p.c3, .slice p.a4 f.heap.length p.c4]) sh25 rfl hb_3.row rfl) rfl rfl ?_
  refine RQ.ev (.loadR ([.slice p.a1 f.map.length p.c1, .slice p.a2 f.tab.length p.c2, .slice p.a3 f.row.length p.c3, .slice p.a4 f.heap.length p.c4]) sh25 rfl hb_3.row rfl) rfl rfl ?_
  refine RQ.call rfl ok22 (fun w' s' => FC.yes (c_MSame p f hSf p f hSf w' (hRf.sub (S.trans s')) (hRf.sub (S.trans s'))) ⟨rfl, rfl, rfl, rfl⟩) rfl rfl ?_
  refine RQ.ev (.not rfl) rfl rfl ?_
  refine RQ.ev (.pick_f rfl rfl) rfl rfl ?_
  refine RQ.ev (.move rfl) rfl rfl ?_
  refine RQ.call rfl ok16 (fun w' s' => c_alive14 w') rfl rfl ?_
  refine RQ.ev (.not rfl) rfl rfl ?_
  refine RQ.ev (.pick_f rfl rfl) rfl rfl ?_
  refine RQ.nil (fun w20 s21 => RC.back ?_)
  have S := S.trans s21
  have hb_3 := hb_3.sub s21
  have hb_4 := hb_4.sub s21
  have hb_5 := hb_5.sub s21
  have hF0 := hF0.sub s21
  have hF' := hF'.sub s21
  have hb_7 := hb_7.sub s21
  have hb_8 := hb_8.sub s21
  refine RC.cond_f rfl ?_
  refine RC.skip (RC.back ?_)
  refine RC.seq ?_
  refine RC.seq ?_
  refine RC.region rfl ?_
  refine RL.ev (.loadR ([.slice p.a1 f.map.length p.c1, .slice p.a2 f.tab.length p.c2, .slice p.a3 f.row.length p.c3, .slice p.a4 f.heap.length p.c4]) sh25 rfl hb_3.row rfl) rfl rfl ?_
  refine RL.call rfl ok14 (c_refMRight p f hSf w20 (hRf.sub S)) rfl rfl ?_
  rintro _ w22 ⟨rfl, s23⟩
  have S := S.trans s23
  have hb_3 := hb_3.sub s23
  have hb_4 := hb_4.sub s23
  have hb_5 := hb_5.sub s23
  have hF0 := hF0.sub s23
  have hF' := hF'.sub s23
  have hb_7 := hb_7.sub s23
  have hb_8 := hb_8.sub s23
  refine RL.ev (.not rfl) rfl rfl ?_
  refine RL.ev (.move rfl) rfl rfl ?_
  refine RL.splitB 49 rfl (fun h24 => ?_) (fun h24 => ?_)
  ·
    have g53 : ¬ (rightM f ∧ okP o) := (fun e => by have q := h24; rw [pB_yes e.1] at q; cases q)
    obtain ⟨e1, e2, e3⟩ := hn g53
    refine RL.off rfl rfl ?_
    refine RL.off rfl rfl ?_
    refine RL.off rfl rfl ?_
    refine RL.ev (.pick_t rfl rfl) rfl rfl ?_
    refine RL.nil (RC.back ?_)
    refine RC.cond_t rfl ?_
    refine RC.seq ?_
    refine RC.region rfl ?_
    refine RL.ev (.move rfl) rfl rfl ?_
    refine RL.ev (.as (v' := .bool true) (.bin rfl rfl rfl) (congrArg Value.bool (decide_eq_true (e3)))) rfl rfl ?_
    refine RL.ev (.move rfl) rfl rfl ?_
    refine RL.ev (.loadR (_) sh25 rfl hb_7.row rfl) rfl rfl ?_
    refine RL.ev (.as (v' := moV p0 m0) (.buildS ze25 pl25 rfl rfl) (by rfl)) rfl rfl ?_
    refine RL.call rfl ok17 (FC.yes (c_refMSame p' r1 hs' p0 m0 m0_S w22 hF'.now (m0_F (fun _ => False) (fun k h => h.elim)).now) (sameM_of e1)) rfl rfl ?_
    rintro _ w25 ⟨rfl, s26⟩
    have S := S.trans s26
    have hb_3 := hb_3.sub s26
    have hb_4 := hb_4.sub s26
    have hb_5 := hb_5.sub s26
    have hF0 := hF0.sub s26
    have hF' := hF'.sub s26
    have hb_7 := hb_7.sub s26
    have hb_8 := hb_8.sub s26
    refine RL.ev (.pick_t rfl rfl) rfl rfl ?_
    refine RL.ev (.move rfl) rfl rfl ?_
    refine RL.ev (.loadR (_) sh39 rfl hb_8.row rfl) rfl rfl ?_
    refine RL.ev (.as (v' := .agg res0.cells.toArray) (.buildS ze39 pl39 rfl rfl) (by rfl)) rfl rfl ?_
    refine RL.ev (.as (v' := .bool true) (.eqS (xs := r2.cells) (ys := res0.cells) fk39 eg39 sh39 rfl rfl rfl rfl rfl) (congrArg Value.bool (eqL_res _ _ e2))) rfl rfl ?_
    refine RL.ev (.pick_t rfl rfl) rfl rfl ?_
    refine RL.ev (.assign rfl) rfl rfl ?_
    refine RL.nil (RC.back ?_)
    refine RC.done (rs := [.tmp 6]) (vs := [_]) rfl rfl ⟨rfl, trivial⟩ ?_
    -- end 1
    exact ⟨rfl, S⟩
  ·
    have g49 : rightM f := (by have q := h24; rw [Bool.not_eq_false'] at q; exact pB_iff.1 q)
    refine RL.ev (.loadR ([.int .i64 o.box, .int .i64 o.kind, .int .i64 o.a, .int .i64 o.b]) sh34 rfl hb_5.row rfl) rfl rfl ?_
    refine RL.call rfl ok15 (c_ref13Right o w22) rfl rfl ?_
    rintro _ w27 ⟨rfl, s28⟩
    have S := S.trans s28
    have hb_3 := hb_3.sub s28
    have hb_4 := hb_4.sub s28
    have hb_5 := hb_5.sub s28
    have hF0 := hF0.sub s28
    have hF' := hF'.sub s28
    have hb_7 := hb_7.sub s28
    have hb_8 := hb_8.sub s28
    refine RL.ev (.not rfl) rfl rfl ?_
    refine RL.ev (.pick_f rfl rfl) rfl rfl ?_
    refine RL.nil (RC.back ?_)
    refine RC.cond rfl (fun h29 => ?_) (fun h29 => ?_)
    ·
      have g53 : ¬ (rightM f ∧ okP o) := (fun e => by have q := h29; simp [e.2] at q)
      obtain ⟨e1, e2, e3⟩ := hn g53
      refine RC.seq ?_
      refine RC.region rfl ?_
      refine RL.ev (.move rfl) rfl rfl ?_
      refine RL.ev (.as (v' := .bool true) (.bin rfl rfl rfl) (congrArg Value.bool (decide_eq_true (e3)))) rfl rfl ?_
      refine RL.ev (.move rfl) rfl rfl ?_
      refine RL.ev (.loadR (_) sh25 rfl hb_7.row rfl) rfl rfl ?_
      refine RL.ev (.as (v' := moV p0 m0) (.buildS ze25 pl25 rfl rfl) (by rfl)) rfl rfl ?_
      refine RL.call rfl ok17 (FC.yes (c_refMSame p' r1 hs' p0 m0 m0_S w27 hF'.now (m0_F (fun _ => False) (fun k h => h.elim)).now) (sameM_of e1)) rfl rfl ?_
      rintro _ w30 ⟨rfl, s31⟩
      have S := S.trans s31
      have hb_3 := hb_3.sub s31
      have hb_4 := hb_4.sub s31
      have hb_5 := hb_5.sub s31
      have hF0 := hF0.sub s31
      have hF' := hF'.sub s31
      have hb_7 := hb_7.sub s31
      have hb_8 := hb_8.sub s31
      refine RL.ev (.pick_t rfl rfl) rfl rfl ?_
      refine RL.ev (.move rfl) rfl rfl ?_
      refine RL.ev (.loadR (_) sh39 rfl hb_8.row rfl) rfl rfl ?_
      refine RL.ev (.as (v' := .agg res0.cells.toArray) (.buildS ze39 pl39 rfl rfl) (by rfl)) rfl rfl ?_
      refine RL.ev (.as (v' := .bool true) (.eqS (xs := r2.cells) (ys := res0.cells) fk39 eg39 sh39 rfl rfl rfl rfl rfl) (congrArg Value.bool (eqL_res _ _ e2))) rfl rfl ?_
      refine RL.ev (.pick_t rfl rfl) rfl rfl ?_
      refine RL.ev (.assign rfl) rfl rfl ?_
      refine RL.nil (RC.back ?_)
      refine RC.done (rs := [.tmp 6]) (vs := [_]) rfl rfl ⟨rfl, trivial⟩ ?_
      -- end 2
      exact ⟨rfl, S⟩
    ·
      have g53 : rightM f ∧ okP o := ⟨g49, by have q := h29; simpa using q⟩
      obtain ⟨e1, e2, e3⟩ := hy g53
      refine RC.skip (RC.back ?_)
      refine RC.seq ?_
      refine RC.region rfl ?_
      refine RL.ev (.loadR ([.slice p.a1 f.map.length p.c1, .slice p.a2 f.tab.length p.c2, .slice p.a3 f.row.length p.c3, .slice p.a4 f.heap.length p.c4]) sh25 rfl hb_3.row rfl) rfl rfl ?_
      refine RL.ev (.loadR ([.int .i64 o.box, .int .i64 o.kind, .int .i64 o.a, .int .i64 o.b]) sh34 rfl hb_5.row rfl) rfl rfl ?_
      refine RL.call rfl ok18 (c_refDo p f hSf g53.1 o g53.2 w27 _ hF0) rfl rfl ?_
      rintro _ w32 ⟨s33, p2, M2, rfl, hs2, hF2, hup2⟩
      have d_hF2_b_3 := upNe hup2 d_hF0_b_3 hb_3.lt
      have d_hF2_b_4 := upNe hup2 d_hF0_b_4 hb_4.lt
      have d_hF2_b_5 := upNe hup2 d_hF0_b_5 hb_5.lt
      have d_hF2_b_7 := upNe hup2 d_hF0_b_7 hb_7.lt
      have d_hF2_b_8 := upNe hup2 d_hF0_b_8 hb_8.lt
      have S := S.trans s33
      have hb_3 := hb_3.sub s33
      have hb_4 := hb_4.sub s33
      have hb_5 := hb_5.sub s33
      have hF0 := hF0.sub s33
      have hF' := hF'.sub s33
      have hb_7 := hb_7.sub s33
      have hb_8 := hb_8.sub s33
      refine RL.alloc ze41 rfl rfl (fun b_10 w_10 e_10 z_10 hb_10 s_10 => ?_)
      have ge_10 := S.le e_10
      have n_3__10 := hb_3.ne e_10
      have n_4__10 := hb_4.ne e_10
      have n_5__10 := hb_5.ne e_10
      have n_7__10 := hb_7.ne e_10
      have n_8__10 := hb_8.ne e_10
      have d_hF0_b_10 := hF0.neNew e_10
      have d_hF'_b_10 := hF'.neNew e_10
      have d_hF2_b_10 := hF2.neNew e_10
      have S := S.trans s_10
      have hb_3 := hb_3.sub s_10
      have hb_4 := hb_4.sub s_10
      have hb_5 := hb_5.sub s_10
      have hF0 := hF0.sub s_10
      have hF' := hF'.sub s_10
      have hb_7 := hb_7.sub s_10
      have hb_8 := hb_8.sub s_10
      have hF2 := hF2.sub s_10
      refine RL.store sh41 rfl rfl rfl hb_10 (by exact Nat.le_of_ble_eq_true rfl) (by rfl) rfl (fun w34 z34 hb_10 a34 => ?_)
      have S := S.upd a34 ge_10
      have hb_3 := hb_3.upd a34 n_3__10
      have hb_4 := hb_4.upd a34 n_4__10
      have hb_5 := hb_5.upd a34 n_5__10
      have hF0 := hF0.updD a34 d_hF0_b_10
      have hF' := hF'.updD a34 d_hF'_b_10
      have hb_7 := hb_7.upd a34 n_7__10
      have hb_8 := hb_8.upd a34 n_8__10
      have hF2 := hF2.updD a34 d_hF2_b_10
      have hb_10 : Has w34 b_10 (moT p2 (doM f o).1 (doM f o).2) _ := hb_10.now (by kernel_rfl)
      refine RL.nil (RC.back ?_)
      refine RC.seq ?_
      refine RC.region rfl ?_
      refine RL.ev (.move rfl) rfl rfl ?_
      refine RL.ev (.as (v' := .bool true) (.bin rfl rfl rfl) (congrArg Value.bool (decide_eq_true (e3)))) rfl rfl ?_
      refine RL.ev (.move rfl) rfl rfl ?_
      refine RL.ev (.loadR (_) sh25 rfl hb_7.row rfl) rfl rfl ?_
      refine RL.ev (.field0 fo41_0 rfl) rfl rfl ?_
      refine RL.ev (.loadR ([.slice p2.a1 (doM f o).1.map.length p2.c1, .slice p2.a2 (doM f o).1.tab.length p2.c2, .slice p2.a3 (doM f o).1.row.length p2.c3, .slice p2.a4 (doM f o).1.heap.length p2.c4]) sh25 rfl (Has.row_at (pre := []) (post := (doM f o).2.cells) hb_10 rfl) rfl) rfl rfl ?_
      refine RL.call rfl ok17 (FC.yes (c_refMSame p' r1 hs' p2 (doM f o).1 hs2 w34 hF'.now hF2.now) (sameM_of e1)) rfl rfl ?_
      rintro _ w35 ⟨rfl, s36⟩
      have S := S.trans s36
      have hb_3 := hb_3.sub s36
      have hb_4 := hb_4.sub s36
      have hb_5 := hb_5.sub s36
      have hF0 := hF0.sub s36
      have hF' := hF'.sub s36
      have hb_7 := hb_7.sub s36
      have hb_8 := hb_8.sub s36
      have hF2 := hF2.sub s36
      have hb_10 := hb_10.sub s36
      refine RL.ev (.pick_t rfl rfl) rfl rfl ?_
      refine RL.ev (.move rfl) rfl rfl ?_
      refine RL.ev (.loadR (_) sh39 rfl hb_8.row rfl) rfl rfl ?_
      refine RL.ev (.field0 fo41_1 rfl) rfl rfl ?_
      refine RL.ev (.loadR ((doM f o).2.cells) sh39 rfl (Has.row_at (pre := [.slice p2.a1 (doM f o).1.map.length p2.c1, .slice p2.a2 (doM f o).1.tab.length p2.c2, .slice p2.a3 (doM f o).1.row.length p2.c3, .slice p2.a4 (doM f o).1.heap.length p2.c4]) (post := []) hb_10 rfl) rfl) rfl rfl ?_
      refine RL.ev (.as (v' := .bool true) (.eqS (xs := r2.cells) (ys := (doM f o).2.cells) fk39 eg39 sh39 rfl rfl rfl rfl rfl) (congrArg Value.bool (eqL_res _ _ e2))) rfl rfl ?_
      refine RL.ev (.pick_t rfl rfl) rfl rfl ?_
      refine RL.ev (.assign rfl) rfl rfl ?_
      refine RL.nil (RC.back ?_)
      refine RC.done (rs := [.tmp 6]) (vs := [_]) rfl rfl ⟨rfl, trivial⟩ ?_
      -- end 3
      exact ⟨rfl, S⟩
end Go.Proofs.Ytjafbffehmombaa
