/-
  The package model: an operation on what the containers hold.
-/
import Derived.Test.YtjafbffehmombaaModelRefP
set_option linter.unusedVariables false
set_option linter.unusedSimpArgs false
namespace Go.Proofs.Ytjafbffehmombaa
open Go Go.XL

theorem c_boxes (w : World) : FC Try.prog 50 [] w (Val (.agg #[.func (.func 61) #[] #[], .func (.func 63) #[] #[], .func (.func 64) #[] #[], .func (.func 66) #[] #[]]) w) := by
  refine FC.intro Try.func50 rfl Try.ntmps50 rfl ?_
  have S := Sub.refl w
  refine RC.seq ?_
  refine RC.region rfl ?_
  refine RL.alloc ze82 rfl rfl (fun b_0 w_0 e_0 z_0 hb_0 s_0 => ?_)
  have ge_0 := S.le e_0
  have S := S.trans s_0
  refine RL.nil (RC.back ?_)
  refine RC.seq ?_
  refine RC.region rfl ?_
  refine RL.ev (.buildA ze82 ar82 rfl rfl) rfl rfl ?_
  refine RL.store sh82 rfl rfl rfl hb_0 (by exact Nat.le_of_ble_eq_true rfl) (by rfl) rfl (fun w1 z1 hb_0 a1 => ?_)
  have S := S.upd a1 ge_0
  have hb_0 : Has w1 b_0 ([.func (.func 61) #[] #[], .func (.func 63) #[] #[], .func (.func 64) #[] #[], .func (.func 66) #[] #[]]) _ := hb_0.now (by kernel_rfl)
  refine RL.nil (RC.back ?_)
  refine RC.done (rs := [.cell 0 82]) (vs := [_]) rfl rfl ⟨⟨_, rfl, .inr ⟨[.func (.func 61) #[] #[], .func (.func 63) #[] #[], .func (.func 64) #[] #[], .func (.func 66) #[] #[]], sh82, hb_0.row, rfl⟩⟩, trivial⟩ ?_
  -- end 1
  exact ⟨rfl, S⟩
theorem c_box1 (b : Nat) (p : Ph) (m : Mo) (hs : Srt m.map) (hl200 : m.map.length ≤ 200) (hc : m.map.length ≤ p.c1) (o : OpT) (hok : okP o) (w : World) (M : Nat → Prop) (hF : Ft M (fun u => Sl u p.a1 2 (m.map.map It.cells)) w) (hb : Has w b (moC p m) 25) (hn : ∀ k, M k → k ≠ b) :
    FC Try.prog 61 [.pointer (some ⟨b, 0, none⟩), .agg o.cells.toArray] w (fun u w' => ∃ a' c' M', u = .agg (pairsM m.map o).2.cells.toArray ∧ (pairsM m.map o).1.length ≤ c' ∧ Ft M' (fun u => Sl u a' 2 ((pairsM m.map o).1.map It.cells)) w' ∧ Up M w M' ∧ Has w' b [.slice a' (pairsM m.map o).1.length c', .slice p.a2 m.tab.length p.c2, .slice p.a3 m.row.length p.c3, .slice p.a4 m.heap.length p.c4] 25 ∧ Agr (· = b) w w') := by
  have G : Agr (· = b) w w := Agr.refl _ _
  refine FC.intro Try.func61 rfl Try.ntmps61 rfl ?_
  have ltb := hb.lt
  refine RC.seq ?_
  refine RC.region rfl ?_
  refine RL.box rfl rfl rfl (fun b_3 w_3 e_3 z_3 hb_3 s_3 => ?_)
  have n__3 := hb.ne e_3
  have d_hF_b_3 := hF.neNew e_3
  have hb := hb.sub s_3
  have hF := hF.sub s_3
  have geG_3 := agLe G e_3
  have G := G.trans s_3.agr
  have hb_3 : Has w_3 b_3 ([.int .i64 o.box, .int .i64 o.kind, .int .i64 o.a, .int .i64 o.b]) _ := hb_3
  refine RL.alloc ze39 rfl rfl (fun b_4 w_4 e_4 z_4 hb_4 s_4 => ?_)
  have n__4 := hb.ne e_4
  have n_3__4 := hb_3.ne e_4
  have d_hF_b_4 := hF.neNew e_4
  have hb := hb.sub s_4
  have hF := hF.sub s_4
  have geG_4 := agLe G e_4
  have G := G.trans s_4.agr
  have hb_3 := hb_3.sub s_4
  refine RL.nil (RC.back ?_)
  refine RC.seq ?_
  refine RC.drawD (fun k => False) [11] w_4.heap.size 12 rfl rfl mxo (fun w1 s2 => ?_)
  have ltD_b := hb.lt
  have ltD_hF := fun k hk => (hF.ge k hk).2
  have ltD_b_3 := hb_3.lt
  have ltD_b_4 := hb_4.lt
  have szD := Nat.le_refl w_4.heap.size
  have hb := hb.sub s2
  have hF := hF.sub s2
  have G := G.trans s2.agr
  have hb_3 := hb_3.sub s2
  have hb_4 := hb_4.sub s2
  have szD := Nat.le_trans szD s2.size
  refine RD.take 0 rfl (by kernel_rfl) (by kernel_rfl) (by kernel_rfl) (fun w' s' => .move rfl) rfl rfl ?_
  refine RD.take 1 rfl (by kernel_rfl) (by kernel_rfl) (by kernel_rfl) (fun w' s' => .nilCheck rfl) rfl rfl ?_
  refine RD.take 2 rfl (by kernel_rfl) (by kernel_rfl) (by kernel_rfl) (fun w' s' => .field0 fo25_0 rfl) rfl rfl ?_
  refine RD.take 3 rfl (by kernel_rfl) (by kernel_rfl) (by kernel_rfl) (fun w' s' => .load1 sh22 rfl ((hb.step s' (fun e => e.elim (fun e => e.elim) (fun e => Nat.not_le.2 ltD_b e))).cell rfl)) rfl rfl ?_
  refine RD.take 4 rfl (by kernel_rfl) (by kernel_rfl) (by kernel_rfl) (fun w' s' => .loadR ([.int .i64 o.box, .int .i64 o.kind, .int .i64 o.a, .int .i64 o.b]) sh34 rfl (hb_3.step s' (fun e => e.elim (fun e => e.elim) (fun e => Nat.not_le.2 ltD_b_3 e))).row rfl) rfl rfl ?_
  refine RD.all [5, 9] (by kernel_rfl) rfl (RDs.cons rfl ?_ (RDs.cons rfl ?_ (RDs.nil)))
  ·
    refine RL.call rfl ok62 (c_pairs m.map p.a1 p.c1 _ rfl hs hl200 hc o hok w1 M hF) rfl rfl ?_
    rintro _ w3 ⟨s4, a', c', M', rfl, hc', hF', hup⟩
    have d_hF'_b := upNe hup hn hb.lt
    have d_hF'_b_3 := upNe hup d_hF_b_3 hb_3.lt
    have d_hF'_b_4 := upNe hup d_hF_b_4 hb_4.lt
    have hup := hup.le G.size
    have hb := hb.sub s4
    have hF := hF.sub s4
    have G := G.trans s4.agr
    have hb_3 := hb_3.sub s4
    have hb_4 := hb_4.sub s4
    have szD := Nat.le_trans szD s4.size
    refine RD.back s4.agr ?_
    refine RD.take 6 rfl (by kernel_rfl) (by kernel_rfl) (by kernel_rfl) (fun w' s' => .move rfl) rfl rfl ?_
    refine RD.take 7 rfl (by kernel_rfl) (by kernel_rfl) (by kernel_rfl) (fun w' s' => .extract rfl rfl) rfl rfl ?_
    refine RD.take 8 rfl (by kernel_rfl) (by kernel_rfl) (by kernel_rfl) (fun w' s' => .extract rfl rfl) rfl rfl ?_
    refine RD.all [9] (by kernel_rfl) rfl (RDs.cons rfl ?_ (RDs.nil))
    refine RL.alloc ze39 rfl rfl (fun b_6 w_6 e_6 z_6 hb_6 s_6 => ?_)
    have fr_b_6 : w_4.heap.size ≤ b_6 := by rw [e_6]; exact szD
    have n__6 := hb.ne e_6
    have n_3__6 := hb_3.ne e_6
    have n_4__6 := hb_4.ne e_6
    have d_hF'_b_6 := hF'.neNew e_6
    have hb := hb.sub s_6
    have geG_6 := agLe G e_6
    have G := G.trans s_6.agr
    have hb_3 := hb_3.sub s_6
    have hb_4 := hb_4.sub s_6
    have szD := Nat.le_trans szD s_6.size
    have hF' := hF'.sub s_6
    refine RD.back s_6.agr ?_
    refine RD.take 10 rfl (by kernel_rfl) (by kernel_rfl) (by kernel_rfl) (fun w' s' => .assign rfl) rfl rfl ?_
    refine RD.all [11] (by kernel_rfl) rfl (RDs.cons rfl ?_ (RDs.nil))
    refine RL.store sh39 rfl rfl rfl hb_6 (by exact Nat.le_of_ble_eq_true rfl) (by rfl) rfl (fun w5 z5 hb_6 a5 => ?_)
    have hb := hb.upd a5 n__6
    have G := agNew G a5 geG_6
    have hb_3 := hb_3.upd a5 n_3__6
    have hb_4 := hb_4.upd a5 n_4__6
    have szD := Nat.le_trans szD a5.size
    have hF' := hF'.updD a5 d_hF'_b_6
    have hb_6 : Has w5 b_6 ([.int .i64 (pairsM m.map o).2.e, .int .i64 (pairsM m.map o).2.a, .int .i64 (pairsM m.map o).2.b]) _ := hb_6.now (by kernel_rfl)
    refine RD.backW rfl (a5.mono fun k _ e => e ▸ (.inr fr_b_6)) ?_
    refine RD.done (by kernel_rfl) (RC.back ?_)
    refine RC.seq ?_
    refine RC.region rfl ?_
    refine RL.ev (.move rfl) rfl rfl ?_
    refine RL.ev (.move rfl) rfl rfl ?_
    refine RL.ev (.nilCheck rfl) rfl rfl ?_
    refine RL.ev (.field0 fo25_0 rfl) rfl rfl ?_
    refine RL.store sh22 rfl rfl rfl hb (by exact Nat.le_of_ble_eq_true rfl) (by rfl) rfl (fun w6 z6 hb a6 => ?_)
    have G := G.trans a6
    have hb_3 := hb_3.upd a6 n__3.symm
    have hb_4 := hb_4.upd a6 n__4.symm
    have hF' := hF'.updD a6 d_hF'_b
    have hb_6 := hb_6.upd a6 n__6.symm
    have hb : Has w6 b ([.slice a' (pairsM m.map o).1.length c', .slice p.a2 m.tab.length p.c2, .slice p.a3 m.row.length p.c3, .slice p.a4 m.heap.length p.c4]) _ := hb
    refine RL.nil (RC.back ?_)
    refine RC.seq ?_
    refine RC.region rfl ?_
    refine RL.ev (.loadR ([.int .i64 (pairsM m.map o).2.e, .int .i64 (pairsM m.map o).2.a, .int .i64 (pairsM m.map o).2.b]) sh39 rfl hb_6.row rfl) rfl rfl ?_
    refine RL.store sh39 rfl rfl rfl hb_4 (by exact Nat.le_of_ble_eq_true rfl) (by rfl) rfl (fun w7 z7 hb_4 a7 => ?_)
    have hb := hb.upd a7 n__4
    have G := agNew G a7 geG_4
    have hb_3 := hb_3.upd a7 n_3__4
    have hF' := hF'.updD a7 d_hF'_b_4
    have hb_6 := hb_6.upd a7 n_4__6.symm
    have hb_4 : Has w7 b_4 ([.int .i64 (pairsM m.map o).2.e, .int .i64 (pairsM m.map o).2.a, .int .i64 (pairsM m.map o).2.b]) _ := hb_4.now (by kernel_rfl)
    refine RL.nil (RC.back ?_)
    refine RC.done (rs := [.cell 4 39]) (vs := [_]) rfl rfl ⟨⟨_, rfl, .inr ⟨[.int .i64 (pairsM m.map o).2.e, .int .i64 (pairsM m.map o).2.a, .int .i64 (pairsM m.map o).2.b], sh39, hb_4.row, rfl⟩⟩, trivial⟩ ?_
    -- end 1
    exact ⟨a', c', M', rfl, hc', hF', hup, hb, G⟩
  ·
    refine RL.alloc ze39 rfl rfl (fun b_6 w_6 e_6 z_6 hb_6 s_6 => ?_)
    have fr_b_6 : w_4.heap.size ≤ b_6 := by rw [e_6]; exact szD
    have n__6 := hb.ne e_6
    have n_3__6 := hb_3.ne e_6
    have n_4__6 := hb_4.ne e_6
    have d_hF_b_6 := hF.neNew e_6
    have hb := hb.sub s_6
    have hF := hF.sub s_6
    have geG_6 := agLe G e_6
    have G := G.trans s_6.agr
    have hb_3 := hb_3.sub s_6
    have hb_4 := hb_4.sub s_6
    have szD := Nat.le_trans szD s_6.size
    refine RD.back s_6.agr ?_
    refine RD.all [5] (by kernel_rfl) rfl (RDs.cons rfl ?_ (RDs.nil))
    refine RL.call rfl ok62 (c_pairs m.map p.a1 p.c1 _ rfl hs hl200 hc o hok w_6 M hF) rfl rfl ?_
    rintro _ w8 ⟨s9, a', c', M', rfl, hc', hF', hup⟩
    have d_hF'_b := upNe hup hn hb.lt
    have d_hF'_b_3 := upNe hup d_hF_b_3 hb_3.lt
    have d_hF'_b_4 := upNe hup d_hF_b_4 hb_4.lt
    have d_hF'_b_6 := upNe hup d_hF_b_6 hb_6.lt
    have hup := hup.le G.size
    have hb := hb.sub s9
    have hF := hF.sub s9
    have G := G.trans s9.agr
    have hb_3 := hb_3.sub s9
    have hb_4 := hb_4.sub s9
    have szD := Nat.le_trans szD s9.size
    have hb_6 := hb_6.sub s9
    refine RD.back s9.agr ?_
    refine RD.take 6 rfl (by kernel_rfl) (by kernel_rfl) (by kernel_rfl) (fun w' s' => .move rfl) rfl rfl ?_
    refine RD.take 7 rfl (by kernel_rfl) (by kernel_rfl) (by kernel_rfl) (fun w' s' => .extract rfl rfl) rfl rfl ?_
    refine RD.take 8 rfl (by kernel_rfl) (by kernel_rfl) (by kernel_rfl) (fun w' s' => .extract rfl rfl) rfl rfl ?_
    refine RD.take 10 rfl (by kernel_rfl) (by kernel_rfl) (by kernel_rfl) (fun w' s' => .assign rfl) rfl rfl ?_
    refine RD.all [11] (by kernel_rfl) rfl (RDs.cons rfl ?_ (RDs.nil))
    refine RL.store sh39 rfl rfl rfl hb_6 (by exact Nat.le_of_ble_eq_true rfl) (by rfl) rfl (fun w10 z10 hb_6 a10 => ?_)
    have hb := hb.upd a10 n__6
    have G := agNew G a10 geG_6
    have hb_3 := hb_3.upd a10 n_3__6
    have hb_4 := hb_4.upd a10 n_4__6
    have szD := Nat.le_trans szD a10.size
    have hF' := hF'.updD a10 d_hF'_b_6
    have hb_6 : Has w10 b_6 ([.int .i64 (pairsM m.map o).2.e, .int .i64 (pairsM m.map o).2.a, .int .i64 (pairsM m.map o).2.b]) _ := hb_6.now (by kernel_rfl)
    refine RD.backW rfl (a10.mono fun k _ e => e ▸ (.inr fr_b_6)) ?_
    refine RD.done (by kernel_rfl) (RC.back ?_)
    refine RC.seq ?_
    refine RC.region rfl ?_
    refine RL.ev (.move rfl) rfl rfl ?_
    refine RL.ev (.move rfl) rfl rfl ?_
    refine RL.ev (.nilCheck rfl) rfl rfl ?_
    refine RL.ev (.field0 fo25_0 rfl) rfl rfl ?_
    refine RL.store sh22 rfl rfl rfl hb (by exact Nat.le_of_ble_eq_true rfl) (by rfl) rfl (fun w11 z11 hb a11 => ?_)
    have G := G.trans a11
    have hb_3 := hb_3.upd a11 n__3.symm
    have hb_4 := hb_4.upd a11 n__4.symm
    have hb_6 := hb_6.upd a11 n__6.symm
    have hF' := hF'.updD a11 d_hF'_b
    have hb : Has w11 b ([.slice a' (pairsM m.map o).1.length c', .slice p.a2 m.tab.length p.c2, .slice p.a3 m.row.length p.c3, .slice p.a4 m.heap.length p.c4]) _ := hb
    refine RL.nil (RC.back ?_)
    refine RC.seq ?_
    refine RC.region rfl ?_
    refine RL.ev (.loadR ([.int .i64 (pairsM m.map o).2.e, .int .i64 (pairsM m.map o).2.a, .int .i64 (pairsM m.map o).2.b]) sh39 rfl hb_6.row rfl) rfl rfl ?_
    refine RL.store sh39 rfl rfl rfl hb_4 (by exact Nat.le_of_ble_eq_true rfl) (by rfl) rfl (fun w12 z12 hb_4 a12 => ?_)
    have hb := hb.upd a12 n__4
    have G := agNew G a12 geG_4
    have hb_3 := hb_3.upd a12 n_3__4
    have hb_6 := hb_6.upd a12 n_4__6.symm
    have hF' := hF'.updD a12 d_hF'_b_4
    have hb_4 : Has w12 b_4 ([.int .i64 (pairsM m.map o).2.e, .int .i64 (pairsM m.map o).2.a, .int .i64 (pairsM m.map o).2.b]) _ := hb_4.now (by kernel_rfl)
    refine RL.nil (RC.back ?_)
    refine RC.done (rs := [.cell 4 39]) (vs := [_]) rfl rfl ⟨⟨_, rfl, .inr ⟨[.int .i64 (pairsM m.map o).2.e, .int .i64 (pairsM m.map o).2.a, .int .i64 (pairsM m.map o).2.b], sh39, hb_4.row, rfl⟩⟩, trivial⟩ ?_
    -- end 2
    exact ⟨a', c', M', rfl, hc', hF', hup, hb, G⟩
theorem c_box2 (b : Nat) (p : Ph) (m : Mo) (hs : Srt m.tab) (hl200 : m.tab.length ≤ 200) (hc : m.tab.length ≤ p.c2) (o : OpT) (hok : okP o) (w : World) (M : Nat → Prop) (hF : Ft M (fun u => Sl u p.a2 2 (m.tab.map It.cells)) w) (hb : Has w b (moC p m) 25) (hn : ∀ k, M k → k ≠ b) :
    FC Try.prog 63 [.pointer (some ⟨b, 0, none⟩), .agg o.cells.toArray] w (fun u w' => ∃ a' c' M', u = .agg (pairsM m.tab o).2.cells.toArray ∧ (pairsM m.tab o).1.length ≤ c' ∧ Ft M' (fun u => Sl u a' 2 ((pairsM m.tab o).1.map It.cells)) w' ∧ Up M w M' ∧ Has w' b [.slice p.a1 m.map.length p.c1, .slice a' (pairsM m.tab o).1.length c', .slice p.a3 m.row.length p.c3, .slice p.a4 m.heap.length p.c4] 25 ∧ Agr (· = b) w w') := by
  have G : Agr (· = b) w w := Agr.refl _ _
  refine FC.intro Try.func63 rfl Try.ntmps63 rfl ?_
  have ltb := hb.lt
  refine RC.seq ?_
  refine RC.region rfl ?_
  refine RL.box rfl rfl rfl (fun b_3 w_3 e_3 z_3 hb_3 s_3 => ?_)
  have n__3 := hb.ne e_3
  have d_hF_b_3 := hF.neNew e_3
  have hb := hb.sub s_3
  have hF := hF.sub s_3
  have geG_3 := agLe G e_3
  have G := G.trans s_3.agr
  have hb_3 : Has w_3 b_3 ([.int .i64 o.box, .int .i64 o.kind, .int .i64 o.a, .int .i64 o.b]) _ := hb_3
  refine RL.alloc ze39 rfl rfl (fun b_4 w_4 e_4 z_4 hb_4 s_4 => ?_)
  have n__4 := hb.ne e_4
  have n_3__4 := hb_3.ne e_4
  have d_hF_b_4 := hF.neNew e_4
  have hb := hb.sub s_4
  have hF := hF.sub s_4
  have geG_4 := agLe G e_4
  have G := G.trans s_4.agr
  have hb_3 := hb_3.sub s_4
  refine RL.nil (RC.back ?_)
  refine RC.seq ?_
  refine RC.drawD (fun k => False) [11] w_4.heap.size 12 rfl rfl mxo (fun w1 s2 => ?_)
  have ltD_b := hb.lt
  have ltD_hF := fun k hk => (hF.ge k hk).2
  have ltD_b_3 := hb_3.lt
  have ltD_b_4 := hb_4.lt
  have szD := Nat.le_refl w_4.heap.size
  have hb := hb.sub s2
  have hF := hF.sub s2
  have G := G.trans s2.agr
  have hb_3 := hb_3.sub s2
  have hb_4 := hb_4.sub s2
  have szD := Nat.le_trans szD s2.size
  refine RD.take 0 rfl (by kernel_rfl) (by kernel_rfl) (by kernel_rfl) (fun w' s' => .move rfl) rfl rfl ?_
  refine RD.take 1 rfl (by kernel_rfl) (by kernel_rfl) (by kernel_rfl) (fun w' s' => .nilCheck rfl) rfl rfl ?_
  refine RD.take 2 rfl (by kernel_rfl) (by kernel_rfl) (by kernel_rfl) (fun w' s' => .field0 fo25_1 rfl) rfl rfl ?_
  refine RD.take 3 rfl (by kernel_rfl) (by kernel_rfl) (by kernel_rfl) (fun w' s' => .load1 sh22 rfl ((hb.step s' (fun e => e.elim (fun e => e.elim) (fun e => Nat.not_le.2 ltD_b e))).cell rfl)) rfl rfl ?_
  refine RD.take 4 rfl (by kernel_rfl) (by kernel_rfl) (by kernel_rfl) (fun w' s' => .loadR ([.int .i64 o.box, .int .i64 o.kind, .int .i64 o.a, .int .i64 o.b]) sh34 rfl (hb_3.step s' (fun e => e.elim (fun e => e.elim) (fun e => Nat.not_le.2 ltD_b_3 e))).row rfl) rfl rfl ?_
  refine RD.all [5, 9] (by kernel_rfl) rfl (RDs.cons rfl ?_ (RDs.cons rfl ?_ (RDs.nil)))
  ·
    refine RL.call rfl ok62 (c_pairs m.tab p.a2 p.c2 _ rfl hs hl200 hc o hok w1 M hF) rfl rfl ?_
    rintro _ w3 ⟨s4, a', c', M', rfl, hc', hF', hup⟩
    have d_hF'_b := upNe hup hn hb.lt
    have d_hF'_b_3 := upNe hup d_hF_b_3 hb_3.lt
    have d_hF'_b_4 := upNe hup d_hF_b_4 hb_4.lt
    have hup := hup.le G.size
    have hb := hb.sub s4
    have hF := hF.sub s4
    have G := G.trans s4.agr
    have hb_3 := hb_3.sub s4
    have hb_4 := hb_4.sub s4
    have szD := Nat.le_trans szD s4.size
    refine RD.back s4.agr ?_
    refine RD.take 6 rfl (by kernel_rfl) (by kernel_rfl) (by kernel_rfl) (fun w' s' => .move rfl) rfl rfl ?_
    refine RD.take 7 rfl (by kernel_rfl) (by kernel_rfl) (by kernel_rfl) (fun w' s' => .extract rfl rfl) rfl rfl ?_
    refine RD.take 8 rfl (by kernel_rfl) (by kernel_rfl) (by kernel_rfl) (fun w' s' => .extract rfl rfl) rfl rfl ?_
    refine RD.all [9] (by kernel_rfl) rfl (RDs.cons rfl ?_ (RDs.nil))
    refine RL.alloc ze39 rfl rfl (fun b_6 w_6 e_6 z_6 hb_6 s_6 => ?_)
    have fr_b_6 : w_4.heap.size ≤ b_6 := by rw [e_6]; exact szD
    have n__6 := hb.ne e_6
    have n_3__6 := hb_3.ne e_6
    have n_4__6 := hb_4.ne e_6
    have d_hF'_b_6 := hF'.neNew e_6
    have hb := hb.sub s_6
    have geG_6 := agLe G e_6
    have G := G.trans s_6.agr
    have hb_3 := hb_3.sub s_6
    have hb_4 := hb_4.sub s_6
    have szD := Nat.le_trans szD s_6.size
    have hF' := hF'.sub s_6
    refine RD.back s_6.agr ?_
    refine RD.take 10 rfl (by kernel_rfl) (by kernel_rfl) (by kernel_rfl) (fun w' s' => .assign rfl) rfl rfl ?_
    refine RD.all [11] (by kernel_rfl) rfl (RDs.cons rfl ?_ (RDs.nil))
    refine RL.store sh39 rfl rfl rfl hb_6 (by exact Nat.le_of_ble_eq_true rfl) (by rfl) rfl (fun w5 z5 hb_6 a5 => ?_)
    have hb := hb.upd a5 n__6
    have G := agNew G a5 geG_6
    have hb_3 := hb_3.upd a5 n_3__6
    have hb_4 := hb_4.upd a5 n_4__6
    have szD := Nat.le_trans szD a5.size
    have hF' := hF'.updD a5 d_hF'_b_6
    have hb_6 : Has w5 b_6 ([.int .i64 (pairsM m.tab o).2.e, .int .i64 (pairsM m.tab o).2.a, .int .i64 (pairsM m.tab o).2.b]) _ := hb_6.now (by kernel_rfl)
    refine RD.backW rfl (a5.mono fun k _ e => e ▸ (.inr fr_b_6)) ?_
    refine RD.done (by kernel_rfl) (RC.back ?_)
    refine RC.seq ?_
    refine RC.region rfl ?_
    refine RL.ev (.move rfl) rfl rfl ?_
    refine RL.ev (.move rfl) rfl rfl ?_
    refine RL.ev (.nilCheck rfl) rfl rfl ?_
    refine RL.ev (.field0 fo25_1 rfl) rfl rfl ?_
    refine RL.store sh22 rfl rfl rfl hb (by exact Nat.le_of_ble_eq_true rfl) (by rfl) rfl (fun w6 z6 hb a6 => ?_)
    have G := G.trans a6
    have hb_3 := hb_3.upd a6 n__3.symm
    have hb_4 := hb_4.upd a6 n__4.symm
    have hF' := hF'.updD a6 d_hF'_b
    have hb_6 := hb_6.upd a6 n__6.symm
    have hb : Has w6 b ([.slice p.a1 m.map.length p.c1, .slice a' (pairsM m.tab o).1.length c', .slice p.a3 m.row.length p.c3, .slice p.a4 m.heap.length p.c4]) _ := hb
    refine RL.nil (RC.back ?_)
    refine RC.seq ?_
    refine RC.region rfl ?_
    refine RL.ev (.loadR ([.int .i64 (pairsM m.tab o).2.e, .int .i64 (pairsM m.tab o).2.a, .int .i64 (pairsM m.tab o).2.b]) sh39 rfl hb_6.row rfl) rfl rfl ?_
    refine RL.store sh39 rfl rfl rfl hb_4 (by exact Nat.le_of_ble_eq_true rfl) (by rfl) rfl (fun w7 z7 hb_4 a7 => ?_)
    have hb := hb.upd a7 n__4
    have G := agNew G a7 geG_4
    have hb_3 := hb_3.upd a7 n_3__4
    have hF' := hF'.updD a7 d_hF'_b_4
    have hb_6 := hb_6.upd a7 n_4__6.symm
    have hb_4 : Has w7 b_4 ([.int .i64 (pairsM m.tab o).2.e, .int .i64 (pairsM m.tab o).2.a, .int .i64 (pairsM m.tab o).2.b]) _ := hb_4.now (by kernel_rfl)
    refine RL.nil (RC.back ?_)
    refine RC.done (rs := [.cell 4 39]) (vs := [_]) rfl rfl ⟨⟨_, rfl, .inr ⟨[.int .i64 (pairsM m.tab o).2.e, .int .i64 (pairsM m.tab o).2.a, .int .i64 (pairsM m.tab o).2.b], sh39, hb_4.row, rfl⟩⟩, trivial⟩ ?_
    -- end 1
    exact ⟨a', c', M', rfl, hc', hF', hup, hb, G⟩
  ·
    refine RL.alloc ze39 rfl rfl (fun b_6 w_6 e_6 z_6 hb_6 s_6 => ?_)
    have fr_b_6 : w_4.heap.size ≤ b_6 := by rw [e_6]; exact szD
    have n__6 := hb.ne e_6
    have n_3__6 := hb_3.ne e_6
    have n_4__6 := hb_4.ne e_6
    have d_hF_b_6 := hF.neNew e_6
    have hb := hb.sub s_6
    have hF := hF.sub s_6
    have geG_6 := agLe G e_6
    have G := G.trans s_6.agr
    have hb_3 := hb_3.sub s_6
    have hb_4 := hb_4.sub s_6
    have szD := Nat.le_trans szD s_6.size
    refine RD.back s_6.agr ?_
    refine RD.all [5] (by kernel_rfl) rfl (RDs.cons rfl ?_ (RDs.nil))
    refine RL.call rfl ok62 (c_pairs m.tab p.a2 p.c2 _ rfl hs hl200 hc o hok w_6 M hF) rfl rfl ?_
    rintro _ w8 ⟨s9, a', c', M', rfl, hc', hF', hup⟩
    have d_hF'_b := upNe hup hn hb.lt
    have d_hF'_b_3 := upNe hup d_hF_b_3 hb_3.lt
    have d_hF'_b_4 := upNe hup d_hF_b_4 hb_4.lt
    have d_hF'_b_6 := upNe hup d_hF_b_6 hb_6.lt
    have hup := hup.le G.size
    have hb := hb.sub s9
    have hF := hF.sub s9
    have G := G.trans s9.agr
    have hb_3 := hb_3.sub s9
    have hb_4 := hb_4.sub s9
    have szD := Nat.le_trans szD s9.size
    have hb_6 := hb_6.sub s9
    refine RD.back s9.agr ?_
    refine RD.take 6 rfl (by kernel_rfl) (by kernel_rfl) (by kernel_rfl) (fun w' s' => .move rfl) rfl rfl ?_
    refine RD.take 7 rfl (by kernel_rfl) (by kernel_rfl) (by kernel_rfl) (fun w' s' => .extract rfl rfl) rfl rfl ?_
    refine RD.take 8 rfl (by kernel_rfl) (by kernel_rfl) (by kernel_rfl) (fun w' s' => .extract rfl rfl) rfl rfl ?_
    refine RD.take 10 rfl (by kernel_rfl) (by kernel_rfl) (by kernel_rfl) (fun w' s' => .assign rfl) rfl rfl ?_
    refine RD.all [11] (by kernel_rfl) rfl (RDs.cons rfl ?_ (RDs.nil))
    refine RL.store sh39 rfl rfl rfl hb_6 (by exact Nat.le_of_ble_eq_true rfl) (by rfl) rfl (fun w10 z10 hb_6 a10 => ?_)
    have hb := hb.upd a10 n__6
    have G := agNew G a10 geG_6
    have hb_3 := hb_3.upd a10 n_3__6
    have hb_4 := hb_4.upd a10 n_4__6
    have szD := Nat.le_trans szD a10.size
    have hF' := hF'.updD a10 d_hF'_b_6
    have hb_6 : Has w10 b_6 ([.int .i64 (pairsM m.tab o).2.e, .int .i64 (pairsM m.tab o).2.a, .int .i64 (pairsM m.tab o).2.b]) _ := hb_6.now (by kernel_rfl)
    refine RD.backW rfl (a10.mono fun k _ e => e ▸ (.inr fr_b_6)) ?_
    refine RD.done (by kernel_rfl) (RC.back ?_)
    refine RC.seq ?_
    refine RC.region rfl ?_
    refine RL.ev (.move rfl) rfl rfl ?_
    refine RL.ev (.move rfl) rfl rfl ?_
    refine RL.ev (.nilCheck rfl) rfl rfl ?_
    refine RL.ev (.field0 fo25_1 rfl) rfl rfl ?_
    refine RL.store sh22 rfl rfl rfl hb (by exact Nat.le_of_ble_eq_true rfl) (by rfl) rfl (fun w11 z11 hb a11 => ?_)
    have G := G.trans a11
    have hb_3 := hb_3.upd a11 n__3.symm
    have hb_4 := hb_4.upd a11 n__4.symm
    have hb_6 := hb_6.upd a11 n__6.symm
    have hF' := hF'.updD a11 d_hF'_b
    have hb : Has w11 b ([.slice p.a1 m.map.length p.c1, .slice a' (pairsM m.tab o).1.length c', .slice p.a3 m.row.length p.c3, .slice p.a4 m.heap.length p.c4]) _ := hb
    refine RL.nil (RC.back ?_)
    refine RC.seq ?_
    refine RC.region rfl ?_
    refine RL.ev (.loadR ([.int .i64 (pairsM m.tab o).2.e, .int .i64 (pairsM m.tab o).2.a, .int .i64 (pairsM m.tab o).2.b]) sh39 rfl hb_6.row rfl) rfl rfl ?_
    refine RL.store sh39 rfl rfl rfl hb_4 (by exact Nat.le_of_ble_eq_true rfl) (by rfl) rfl (fun w12 z12 hb_4 a12 => ?_)
    have hb := hb.upd a12 n__4
    have G := agNew G a12 geG_4
    have hb_3 := hb_3.upd a12 n_3__4
    have hb_6 := hb_6.upd a12 n_4__6.symm
    have hF' := hF'.updD a12 d_hF'_b_4
    have hb_4 : Has w12 b_4 ([.int .i64 (pairsM m.tab o).2.e, .int .i64 (pairsM m.tab o).2.a, .int .i64 (pairsM m.tab o).2.b]) _ := hb_4.now (by kernel_rfl)
    refine RL.nil (RC.back ?_)
    refine RC.done (rs := [.cell 4 39]) (vs := [_]) rfl rfl ⟨⟨_, rfl, .inr ⟨[.int .i64 (pairsM m.tab o).2.e, .int .i64 (pairsM m.tab o).2.a, .int .i64 (pairsM m.tab o).2.b], sh39, hb_4.row, rfl⟩⟩, trivial⟩ ?_
    -- end 2
    exact ⟨a', c', M', rfl, hc', hF', hup, hb, G⟩
theorem c_box3 (b : Nat) (p : Ph) (m : Mo) (hs : True) (hl200 : m.row.length ≤ 200) (hc : m.row.length ≤ p.c3) (o : OpT) (hok : okP o) (w : World) (M : Nat → Prop) (hF : Ft M (fun u => Sl u p.a3 1 (m.row.map fun x => [i6 x])) w) (hb : Has w b (moC p m) 25) (hn : ∀ k, M k → k ≠ b) :
    FC Try.prog 64 [.pointer (some ⟨b, 0, none⟩), .agg o.cells.toArray] w (fun u w' => ∃ a' c' M', u = .agg (rowM m.row o).2.cells.toArray ∧ (rowM m.row o).1.length ≤ c' ∧ Ft M' (fun u => Sl u a' 1 ((rowM m.row o).1.map fun x => [i6 x])) w' ∧ Up M w M' ∧ Has w' b [.slice p.a1 m.map.length p.c1, .slice p.a2 m.tab.length p.c2, .slice a' (rowM m.row o).1.length c', .slice p.a4 m.heap.length p.c4] 25 ∧ Agr (· = b) w w') := by
  have G : Agr (· = b) w w := Agr.refl _ _
  refine FC.intro Try.func64 rfl Try.ntmps64 rfl ?_
  have ltb := hb.lt
  refine RC.seq ?_
  refine RC.region rfl ?_
  refine RL.box rfl rfl rfl (fun b_3 w_3 e_3 z_3 hb_3 s_3 => ?_)
  have n__3 := hb.ne e_3
  have d_hF_b_3 := hF.neNew e_3
  have hb := hb.sub s_3
  have hF := hF.sub s_3
  have geG_3 := agLe G e_3
  have G := G.trans s_3.agr
  have hb_3 : Has w_3 b_3 ([.int .i64 o.box, .int .i64 o.kind, .int .i64 o.a, .int .i64 o.b]) _ := hb_3
  refine RL.alloc ze39 rfl rfl (fun b_4 w_4 e_4 z_4 hb_4 s_4 => ?_)
  have n__4 := hb.ne e_4
  have n_3__4 := hb_3.ne e_4
  have d_hF_b_4 := hF.neNew e_4
  have hb := hb.sub s_4
  have hF := hF.sub s_4
  have geG_4 := agLe G e_4
  have G := G.trans s_4.agr
  have hb_3 := hb_3.sub s_4
  refine RL.nil (RC.back ?_)
  refine RC.seq ?_
  refine RC.drawD (fun k => False) [11] w_4.heap.size 12 rfl rfl mxo (fun w1 s2 => ?_)
  have ltD_b := hb.lt
  have ltD_hF := fun k hk => (hF.ge k hk).2
  have ltD_b_3 := hb_3.lt
  have ltD_b_4 := hb_4.lt
  have szD := Nat.le_refl w_4.heap.size
  have hb := hb.sub s2
  have hF := hF.sub s2
  have G := G.trans s2.agr
  have hb_3 := hb_3.sub s2
  have hb_4 := hb_4.sub s2
  have szD := Nat.le_trans szD s2.size
  refine RD.take 0 rfl (by kernel_rfl) (by kernel_rfl) (by kernel_rfl) (fun w' s' => .move rfl) rfl rfl ?_
  refine RD.take 1 rfl (by kernel_rfl) (by kernel_rfl) (by kernel_rfl) (fun w' s' => .nilCheck rfl) rfl rfl ?_
  refine RD.take 2 rfl (by kernel_rfl) (by kernel_rfl) (by kernel_rfl) (fun w' s' => .field0 fo25_2 rfl) rfl rfl ?_
  refine RD.take 3 rfl (by kernel_rfl) (by kernel_rfl) (by kernel_rfl) (fun w' s' => .load1 sh23 rfl ((hb.step s' (fun e => e.elim (fun e => e.elim) (fun e => Nat.not_le.2 ltD_b e))).cell rfl)) rfl rfl ?_
  refine RD.take 4 rfl (by kernel_rfl) (by kernel_rfl) (by kernel_rfl) (fun w' s' => .loadR ([.int .i64 o.box, .int .i64 o.kind, .int .i64 o.a, .int .i64 o.b]) sh34 rfl (hb_3.step s' (fun e => e.elim (fun e => e.elim) (fun e => Nat.not_le.2 ltD_b_3 e))).row rfl) rfl rfl ?_
  refine RD.all [5, 9] (by kernel_rfl) rfl (RDs.cons rfl ?_ (RDs.cons rfl ?_ (RDs.nil)))
  ·
    refine RL.call rfl ok65 (c_row m.row p.a3 p.c3 _ rfl hl200 hc o hok w1 M hF) rfl rfl ?_
    rintro _ w3 ⟨s4, a', c', M', rfl, hc', hF', hup⟩
    have d_hF'_b := upNe hup hn hb.lt
    have d_hF'_b_3 := upNe hup d_hF_b_3 hb_3.lt
    have d_hF'_b_4 := upNe hup d_hF_b_4 hb_4.lt
    have hup := hup.le G.size
    have hb := hb.sub s4
    have hF := hF.sub s4
    have G := G.trans s4.agr
    have hb_3 := hb_3.sub s4
    have hb_4 := hb_4.sub s4
    have szD := Nat.le_trans szD s4.size
    refine RD.back s4.agr ?_
    refine RD.take 6 rfl (by kernel_rfl) (by kernel_rfl) (by kernel_rfl) (fun w' s' => .move rfl) rfl rfl ?_
    refine RD.take 7 rfl (by kernel_rfl) (by kernel_rfl) (by kernel_rfl) (fun w' s' => .extract rfl rfl) rfl rfl ?_
    refine RD.take 8 rfl (by kernel_rfl) (by kernel_rfl) (by kernel_rfl) (fun w' s' => .extract rfl rfl) rfl rfl ?_
    refine RD.all [9] (by kernel_rfl) rfl (RDs.cons rfl ?_ (RDs.nil))
    refine RL.alloc ze39 rfl rfl (fun b_6 w_6 e_6 z_6 hb_6 s_6 => ?_)
    have fr_b_6 : w_4.heap.size ≤ b_6 := by rw [e_6]; exact szD
    have n__6 := hb.ne e_6
    have n_3__6 := hb_3.ne e_6
    have n_4__6 := hb_4.ne e_6
    have d_hF'_b_6 := hF'.neNew e_6
    have hb := hb.sub s_6
    have geG_6 := agLe G e_6
    have G := G.trans s_6.agr
    have hb_3 := hb_3.sub s_6
    have hb_4 := hb_4.sub s_6
    have szD := Nat.le_trans szD s_6.size
    have hF' := hF'.sub s_6
    refine RD.back s_6.agr ?_
    refine RD.take 10 rfl (by kernel_rfl) (by kernel_rfl) (by kernel_rfl) (fun w' s' => .assign rfl) rfl rfl ?_
    refine RD.all [11] (by kernel_rfl) rfl (RDs.cons rfl ?_ (RDs.nil))
    refine RL.store sh39 rfl rfl rfl hb_6 (by exact Nat.le_of_ble_eq_true rfl) (by rfl) rfl (fun w5 z5 hb_6 a5 => ?_)
    have hb := hb.upd a5 n__6
    have G := agNew G a5 geG_6
    have hb_3 := hb_3.upd a5 n_3__6
    have hb_4 := hb_4.upd a5 n_4__6
    have szD := Nat.le_trans szD a5.size
    have hF' := hF'.updD a5 d_hF'_b_6
    have hb_6 : Has w5 b_6 ([.int .i64 (rowM m.row o).2.e, .int .i64 (rowM m.row o).2.a, .int .i64 (rowM m.row o).2.b]) _ := hb_6.now (by kernel_rfl)
    refine RD.backW rfl (a5.mono fun k _ e => e ▸ (.inr fr_b_6)) ?_
    refine RD.done (by kernel_rfl) (RC.back ?_)
    refine RC.seq ?_
    refine RC.region rfl ?_
    refine RL.ev (.move rfl) rfl rfl ?_
    refine RL.ev (.move rfl) rfl rfl ?_
    refine RL.ev (.nilCheck rfl) rfl rfl ?_
    refine RL.ev (.field0 fo25_2 rfl) rfl rfl ?_
    refine RL.store sh23 rfl rfl rfl hb (by exact Nat.le_of_ble_eq_true rfl) (by rfl) rfl (fun w6 z6 hb a6 => ?_)
    have G := G.trans a6
    have hb_3 := hb_3.upd a6 n__3.symm
    have hb_4 := hb_4.upd a6 n__4.symm
    have hF' := hF'.updD a6 d_hF'_b
    have hb_6 := hb_6.upd a6 n__6.symm
    have hb : Has w6 b ([.slice p.a1 m.map.length p.c1, .slice p.a2 m.tab.length p.c2, .slice a' (rowM m.row o).1.length c', .slice p.a4 m.heap.length p.c4]) _ := hb
    refine RL.nil (RC.back ?_)
    refine RC.seq ?_
    refine RC.region rfl ?_
    refine RL.ev (.loadR ([.int .i64 (rowM m.row o).2.e, .int .i64 (rowM m.row o).2.a, .int .i64 (rowM m.row o).2.b]) sh39 rfl hb_6.row rfl) rfl rfl ?_
    refine RL.store sh39 rfl rfl rfl hb_4 (by exact Nat.le_of_ble_eq_true rfl) (by rfl) rfl (fun w7 z7 hb_4 a7 => ?_)
    have hb := hb.upd a7 n__4
    have G := agNew G a7 geG_4
    have hb_3 := hb_3.upd a7 n_3__4
    have hF' := hF'.updD a7 d_hF'_b_4
    have hb_6 := hb_6.upd a7 n_4__6.symm
    have hb_4 : Has w7 b_4 ([.int .i64 (rowM m.row o).2.e, .int .i64 (rowM m.row o).2.a, .int .i64 (rowM m.row o).2.b]) _ := hb_4.now (by kernel_rfl)
    refine RL.nil (RC.back ?_)
    refine RC.done (rs := [.cell 4 39]) (vs := [_]) rfl rfl ⟨⟨_, rfl, .inr ⟨[.int .i64 (rowM m.row o).2.e, .int .i64 (rowM m.row o).2.a, .int .i64 (rowM m.row o).2.b], sh39, hb_4.row, rfl⟩⟩, trivial⟩ ?_
    -- end 1
    exact ⟨a', c', M', rfl, hc', hF', hup, hb, G⟩
  ·
    refine RL.alloc ze39 rfl rfl (fun b_6 w_6 e_6 z_6 hb_6 s_6 => ?_)
    have fr_b_6 : w_4.heap.size ≤ b_6 := by rw [e_6]; exact szD
    have n__6 := hb.ne e_6
    have n_3__6 := hb_3.ne e_6
    have n_4__6 := hb_4.ne e_6
    have d_hF_b_6 := hF.neNew e_6
    have hb := hb.sub s_6
    have hF := hF.sub s_6
    have geG_6 := agLe G e_6
    have G := G.trans s_6.agr
    have hb_3 := hb_3.sub s_6
    have hb_4 := hb_4.sub s_6
    have szD := Nat.le_trans szD s_6.size
    refine RD.back s_6.agr ?_
    refine RD.all [5] (by kernel_rfl) rfl (RDs.cons rfl ?_ (RDs.nil))
    refine RL.call rfl ok65 (c_row m.row p.a3 p.c3 _ rfl hl200 hc o hok w_6 M hF) rfl rfl ?_
    rintro _ w8 ⟨s9, a', c', M', rfl, hc', hF', hup⟩
    have d_hF'_b := upNe hup hn hb.lt
    have d_hF'_b_3 := upNe hup d_hF_b_3 hb_3.lt
    have d_hF'_b_4 := upNe hup d_hF_b_4 hb_4.lt
    have d_hF'_b_6 := upNe hup d_hF_b_6 hb_6.lt
    have hup := hup.le G.size
    have hb := hb.sub s9
    have hF := hF.sub s9
    have G := G.trans s9.agr
    have hb_3 := hb_3.sub s9
    have hb_4 := hb_4.sub s9
    have szD := Nat.le_trans szD s9.size
    have hb_6 := hb_6.sub s9
    refine RD.back s9.agr ?_
    refine RD.take 6 rfl (by kernel_rfl) (by kernel_rfl) (by kernel_rfl) (fun w' s' => .move rfl) rfl rfl ?_
    refine RD.take 7 rfl (by kernel_rfl) (by kernel_rfl) (by kernel_rfl) (fun w' s' => .extract rfl rfl) rfl rfl ?_
    refine RD.take 8 rfl (by kernel_rfl) (by kernel_rfl) (by kernel_rfl) (fun w' s' => .extract rfl rfl) rfl rfl ?_
    refine RD.take 10 rfl (by kernel_rfl) (by kernel_rfl) (by kernel_rfl) (fun w' s' => .assign rfl) rfl rfl ?_
    refine RD.all [11] (by kernel_rfl) rfl (RDs.cons rfl ?_ (RDs.nil))
    refine RL.store sh39 rfl rfl rfl hb_6 (by exact Nat.le_of_ble_eq_true rfl) (by rfl) rfl (fun w10 z10 hb_6 a10 => ?_)
    have hb := hb.upd a10 n__6
    have G := agNew G a10 geG_6
    have hb_3 := hb_3.upd a10 n_3__6
    have hb_4 := hb_4.upd a10 n_4__6
    have szD := Nat.le_trans szD a10.size
    have hF' := hF'.updD a10 d_hF'_b_6
    have hb_6 : Has w10 b_6 ([.int .i64 (rowM m.row o).2.e, .int .i64 (rowM m.row o).2.a, .int .i64 (rowM m.row o).2.b]) _ := hb_6.now (by kernel_rfl)
    refine RD.backW rfl (a10.mono fun k _ e => e ▸ (.inr fr_b_6)) ?_
    refine RD.done (by kernel_rfl) (RC.back ?_)
    refine RC.seq ?_
    refine RC.region rfl ?_
    refine RL.ev (.move rfl) rfl rfl ?_
    refine RL.ev (.move rfl) rfl rfl ?_
    refine RL.ev (.nilCheck rfl) rfl rfl ?_
    refine RL.ev (.field0 fo25_2 rfl) rfl rfl ?_
    refine RL.store sh23 rfl rfl rfl hb (by exact Nat.le_of_ble_eq_true rfl) (by rfl) rfl (fun w11 z11 hb a11 => ?_)
    have G := G.trans a11
    have hb_3 := hb_3.upd a11 n__3.symm
    have hb_4 := hb_4.upd a11 n__4.symm
    have hb_6 := hb_6.upd a11 n__6.symm
    have hF' := hF'.updD a11 d_hF'_b
    have hb : Has w11 b ([.slice p.a1 m.map.length p.c1, .slice p.a2 m.tab.length p.c2, .slice a' (rowM m.row o).1.length c', .slice p.a4 m.heap.length p.c4]) _ := hb
    refine RL.nil (RC.back ?_)
    refine RC.seq ?_
    refine RC.region rfl ?_
    refine RL.ev (.loadR ([.int .i64 (rowM m.row o).2.e, .int .i64 (rowM m.row o).2.a, .int .i64 (rowM m.row o).2.b]) sh39 rfl hb_6.row rfl) rfl rfl ?_
    refine RL.store sh39 rfl rfl rfl hb_4 (by exact Nat.le_of_ble_eq_true rfl) (by rfl) rfl (fun w12 z12 hb_4 a12 => ?_)
    have hb := hb.upd a12 n__4
    have G := agNew G a12 geG_4
    have hb_3 := hb_3.upd a12 n_3__4
    have hb_6 := hb_6.upd a12 n_4__6.symm
    have hF' := hF'.updD a12 d_hF'_b_4
    have hb_4 : Has w12 b_4 ([.int .i64 (rowM m.row o).2.e, .int .i64 (rowM m.row o).2.a, .int .i64 (rowM m.row o).2.b]) _ := hb_4.now (by kernel_rfl)
    refine RL.nil (RC.back ?_)
    refine RC.done (rs := [.cell 4 39]) (vs := [_]) rfl rfl ⟨⟨_, rfl, .inr ⟨[.int .i64 (rowM m.row o).2.e, .int .i64 (rowM m.row o).2.a, .int .i64 (rowM m.row o).2.b], sh39, hb_4.row, rfl⟩⟩, trivial⟩ ?_
    -- end 2
    exact ⟨a', c', M', rfl, hc', hF', hup, hb, G⟩
theorem c_box4 (b : Nat) (p : Ph) (m : Mo) (hs : SrtH m.heap) (hl200 : m.heap.length ≤ 200) (hc : m.heap.length ≤ p.c4) (o : OpT) (hok : okP o) (w : World) (M : Nat → Prop) (hF : Ft M (fun u => Sl u p.a4 2 (m.heap.map It.cells)) w) (hb : Has w b (moC p m) 25) (hn : ∀ k, M k → k ≠ b) :
    FC Try.prog 66 [.pointer (some ⟨b, 0, none⟩), .agg o.cells.toArray] w (fun u w' => ∃ a' c' M', u = .agg (heapM m.heap o).2.cells.toArray ∧ (heapM m.heap o).1.length ≤ c' ∧ Ft M' (fun u => Sl u a' 2 ((heapM m.heap o).1.map It.cells)) w' ∧ Up M w M' ∧ Has w' b [.slice p.a1 m.map.length p.c1, .slice p.a2 m.tab.length p.c2, .slice p.a3 m.row.length p.c3, .slice a' (heapM m.heap o).1.length c'] 25 ∧ Agr (· = b) w w') := by
  have G : Agr (· = b) w w := Agr.refl _ _
  refine FC.intro Try.func66 rfl Try.ntmps66 rfl ?_
  have ltb := hb.lt
  refine RC.seq ?_
  refine RC.region rfl ?_
  refine RL.box rfl rfl rfl (fun b_3 w_3 e_3 z_3 hb_3 s_3 => ?_)
  have n__3 := hb.ne e_3
  have d_hF_b_3 := hF.neNew e_3
  have hb := hb.sub s_3
  have hF := hF.sub s_3
  have geG_3 := agLe G e_3
  have G := G.trans s_3.agr
  have hb_3 : Has w_3 b_3 ([.int .i64 o.box, .int .i64 o.kind, .int .i64 o.a, .int .i64 o.b]) _ := hb_3
  refine RL.alloc ze39 rfl rfl (fun b_4 w_4 e_4 z_4 hb_4 s_4 => ?_)
  have n__4 := hb.ne e_4
  have n_3__4 := hb_3.ne e_4
  have d_hF_b_4 := hF.neNew e_4
  have hb := hb.sub s_4
  have hF := hF.sub s_4
  have geG_4 := agLe G e_4
  have G := G.trans s_4.agr
  have hb_3 := hb_3.sub s_4
  refine RL.nil (RC.back ?_)
  refine RC.seq ?_
  refine RC.drawD (fun k => False) [11] w_4.heap.size 12 rfl rfl mxo (fun w1 s2 => ?_)
  have ltD_b := hb.lt
  have ltD_hF := fun k hk => (hF.ge k hk).2
  have ltD_b_3 := hb_3.lt
  have ltD_b_4 := hb_4.lt
  have szD := Nat.le_refl w_4.heap.size
  have hb := hb.sub s2
  have hF := hF.sub s2
  have G := G.trans s2.agr
  have hb_3 := hb_3.sub s2
  have hb_4 := hb_4.sub s2
  have szD := Nat.le_trans szD s2.size
  refine RD.take 0 rfl (by kernel_rfl) (by kernel_rfl) (by kernel_rfl) (fun w' s' => .move rfl) rfl rfl ?_
  refine RD.take 1 rfl (by kernel_rfl) (by kernel_rfl) (by kernel_rfl) (fun w' s' => .nilCheck rfl) rfl rfl ?_
  refine RD.take 2 rfl (by kernel_rfl) (by kernel_rfl) (by kernel_rfl) (fun w' s' => .field0 fo25_3 rfl) rfl rfl ?_
  refine RD.take 3 rfl (by kernel_rfl) (by kernel_rfl) (by kernel_rfl) (fun w' s' => .load1 sh22 rfl ((hb.step s' (fun e => e.elim (fun e => e.elim) (fun e => Nat.not_le.2 ltD_b e))).cell rfl)) rfl rfl ?_
  refine RD.take 4 rfl (by kernel_rfl) (by kernel_rfl) (by kernel_rfl) (fun w' s' => .loadR ([.int .i64 o.box, .int .i64 o.kind, .int .i64 o.a, .int .i64 o.b]) sh34 rfl (hb_3.step s' (fun e => e.elim (fun e => e.elim) (fun e => Nat.not_le.2 ltD_b_3 e))).row rfl) rfl rfl ?_
  refine RD.all [5, 9] (by kernel_rfl) rfl (RDs.cons rfl ?_ (RDs.cons rfl ?_ (RDs.nil)))
  ·
    refine RL.call rfl ok67 (c_heap m.heap p.a4 p.c4 _ rfl hs hl200 hc o hok w1 M hF) rfl rfl ?_
    rintro _ w3 ⟨s4, a', c', M', rfl, hc', hF', hup⟩
    have d_hF'_b := upNe hup hn hb.lt
    have d_hF'_b_3 := upNe hup d_hF_b_3 hb_3.lt
    have d_hF'_b_4 := upNe hup d_hF_b_4 hb_4.lt
    have hup := hup.le G.size
    have hb := hb.sub s4
    have hF := hF.sub s4
    have G := G.trans s4.agr
    have hb_3 := hb_3.sub s4
    have hb_4 := hb_4.sub s4
    have szD := Nat.le_trans szD s4.size
    refine RD.back s4.agr ?_
    refine RD.take 6 rfl (by kernel_rfl) (by kernel_rfl) (by kernel_rfl) (fun w' s' => .move rfl) rfl rfl ?_
    refine RD.take 7 rfl (by kernel_rfl) (by kernel_rfl) (by kernel_rfl) (fun w' s' => .extract rfl rfl) rfl rfl ?_
    refine RD.take 8 rfl (by kernel_rfl) (by kernel_rfl) (by kernel_rfl) (fun w' s' => .extract rfl rfl) rfl rfl ?_
    refine RD.all [9] (by kernel_rfl) rfl (RDs.cons rfl ?_ (RDs.nil))
    refine RL.alloc ze39 rfl rfl (fun b_6 w_6 e_6 z_6 hb_6 s_6 => ?_)
    have fr_b_6 : w_4.heap.size ≤ b_6 := by rw [e_6]; exact szD
    have n__6 := hb.ne e_6
    have n_3__6 := hb_3.ne e_6
    have n_4__6 := hb_4.ne e_6
    have d_hF'_b_6 := hF'.neNew e_6
    have hb := hb.sub s_6
    have geG_6 := agLe G e_6
    have G := G.trans s_6.agr
    have hb_3 := hb_3.sub s_6
    have hb_4 := hb_4.sub s_6
    have szD := Nat.le_trans szD s_6.size
    have hF' := hF'.sub s_6
    refine RD.back s_6.agr ?_
    refine RD.take 10 rfl (by kernel_rfl) (by kernel_rfl) (by kernel_rfl) (fun w' s' => .assign rfl) rfl rfl ?_
    refine RD.all [11] (by kernel_rfl) rfl (RDs.cons rfl ?_ (RDs.nil))
    refine RL.store sh39 rfl rfl rfl hb_6 (by exact Nat.le_of_ble_eq_true rfl) (by rfl) rfl (fun w5 z5 hb_6 a5 => ?_)
    have hb := hb.upd a5 n__6
    have G := agNew G a5 geG_6
    have hb_3 := hb_3.upd a5 n_3__6
    have hb_4 := hb_4.upd a5 n_4__6
    have szD := Nat.le_trans szD a5.size
    have hF' := hF'.updD a5 d_hF'_b_6
    have hb_6 : Has w5 b_6 ([.int .i64 (heapM m.heap o).2.e, .int .i64 (heapM m.heap o).2.a, .int .i64 (heapM m.heap o).2.b]) _ := hb_6.now (by kernel_rfl)
    refine RD.backW rfl (a5.mono fun k _ e => e ▸ (.inr fr_b_6)) ?_
    refine RD.done (by kernel_rfl) (RC.back ?_)
    refine RC.seq ?_
    refine RC.region rfl ?_
    refine RL.ev (.move rfl) rfl rfl ?_
    refine RL.ev (.move rfl) rfl rfl ?_
    refine RL.ev (.nilCheck rfl) rfl rfl ?_
    refine RL.ev (.field0 fo25_3 rfl) rfl rfl ?_
    refine RL.store sh22 rfl rfl rfl hb (by exact Nat.le_of_ble_eq_true rfl) (by rfl) rfl (fun w6 z6 hb a6 => ?_)
    have G := G.trans a6
    have hb_3 := hb_3.upd a6 n__3.symm
    have hb_4 := hb_4.upd a6 n__4.symm
    have hF' := hF'.updD a6 d_hF'_b
    have hb_6 := hb_6.upd a6 n__6.symm
    have hb : Has w6 b ([.slice p.a1 m.map.length p.c1, .slice p.a2 m.tab.length p.c2, .slice p.a3 m.row.length p.c3, .slice a' (heapM m.heap o).1.length c']) _ := hb
    refine RL.nil (RC.back ?_)
    refine RC.seq ?_
    refine RC.region rfl ?_
    refine RL.ev (.loadR ([.int .i64 (heapM m.heap o).2.e, .int .i64 (heapM m.heap o).2.a, .int .i64 (heapM m.heap o).2.b]) sh39 rfl hb_6.row rfl) rfl rfl ?_
    refine RL.store sh39 rfl rfl rfl hb_4 (by exact Nat.le_of_ble_eq_true rfl) (by rfl) rfl (fun w7 z7 hb_4 a7 => ?_)
    have hb := hb.upd a7 n__4
    have G := agNew G a7 geG_4
    have hb_3 := hb_3.upd a7 n_3__4
    have hF' := hF'.updD a7 d_hF'_b_4
    have hb_6 := hb_6.upd a7 n_4__6.symm
    have hb_4 : Has w7 b_4 ([.int .i64 (heapM m.heap o).2.e, .int .i64 (heapM m.heap o).2.a, .int .i64 (heapM m.heap o).2.b]) _ := hb_4.now (by kernel_rfl)
    refine RL.nil (RC.back ?_)
    refine RC.done (rs := [.cell 4 39]) (vs := [_]) rfl rfl ⟨⟨_, rfl, .inr ⟨[.int .i64 (heapM m.heap o).2.e, .int .i64 (heapM m.heap o).2.a, .int .i64 (heapM m.heap o).2.b], sh39, hb_4.row, rfl⟩⟩, trivial⟩ ?_
    -- end 1
    exact ⟨a', c', M', rfl, hc', hF', hup, hb, G⟩
  ·
    refine RL.alloc ze39 rfl rfl (fun b_6 w_6 e_6 z_6 hb_6 s_6 => ?_)
    have fr_b_6 : w_4.heap.size ≤ b_6 := by rw [e_6]; exact szD
    have n__6 := hb.ne e_6
    have n_3__6 := hb_3.ne e_6
    have n_4__6 := hb_4.ne e_6
    have d_hF_b_6 := hF.neNew e_6
    have hb := hb.sub s_6
    have hF := hF.sub s_6
    have geG_6 := agLe G e_6
    have G := G.trans s_6.agr
    have hb_3 := hb_3.sub s_6
    have hb_4 := hb_4.sub s_6
    have szD := Nat.le_trans szD s_6.size
    refine RD.back s_6.agr ?_
    refine RD.all [5] (by kernel_rfl) rfl (RDs.cons rfl ?_ (RDs.nil))
    refine RL.call rfl ok67 (c_heap m.heap p.a4 p.c4 _ rfl hs hl200 hc o hok w_6 M hF) rfl rfl ?_
    rintro _ w8 ⟨s9, a', c', M', rfl, hc', hF', hup⟩
    have d_hF'_b := upNe hup hn hb.lt
    have d_hF'_b_3 := upNe hup d_hF_b_3 hb_3.lt
    have d_hF'_b_4 := upNe hup d_hF_b_4 hb_4.lt
    have d_hF'_b_6 := upNe hup d_hF_b_6 hb_6.lt
    have hup := hup.le G.size
    have hb := hb.sub s9
    have hF := hF.sub s9
    have G := G.trans s9.agr
    have hb_3 := hb_3.sub s9
    have hb_4 := hb_4.sub s9
    have szD := Nat.le_trans szD s9.size
    have hb_6 := hb_6.sub s9
    refine RD.back s9.agr ?_
    refine RD.take 6 rfl (by kernel_rfl) (by kernel_rfl) (by kernel_rfl) (fun w' s' => .move rfl) rfl rfl ?_
    refine RD.take 7 rfl (by kernel_rfl) (by kernel_rfl) (by kernel_rfl) (fun w' s' => .extract rfl rfl) rfl rfl ?_
    refine RD.take 8 rfl (by kernel_rfl) (by kernel_rfl) (by kernel_rfl) (fun w' s' => .extract rfl rfl) rfl rfl ?_
    refine RD.take 10 rfl (by kernel_rfl) (by kernel_rfl) (by kernel_rfl) (fun w' s' => .assign rfl) rfl rfl ?_
    refine RD.all [11] (by kernel_rfl) rfl (RDs.cons rfl ?_ (RDs.nil))
    refine RL.store sh39 rfl rfl rfl hb_6 (by exact Nat.le_of_ble_eq_true rfl) (by rfl) rfl (fun w10 z10 hb_6 a10 => ?_)
    have hb := hb.upd a10 n__6
    have G := agNew G a10 geG_6
    have hb_3 := hb_3.upd a10 n_3__6
    have hb_4 := hb_4.upd a10 n_4__6
    have szD := Nat.le_trans szD a10.size
    have hF' := hF'.updD a10 d_hF'_b_6
    have hb_6 : Has w10 b_6 ([.int .i64 (heapM m.heap o).2.e, .int .i64 (heapM m.heap o).2.a, .int .i64 (heapM m.heap o).2.b]) _ := hb_6.now (by kernel_rfl)
    refine RD.backW rfl (a10.mono fun k _ e => e ▸ (.inr fr_b_6)) ?_
    refine RD.done (by kernel_rfl) (RC.back ?_)
    refine RC.seq ?_
    refine RC.region rfl ?_
    refine RL.ev (.move rfl) rfl rfl ?_
    refine RL.ev (.move rfl) rfl rfl ?_
    refine RL.ev (.nilCheck rfl) rfl rfl ?_
    refine RL.ev (.field0 fo25_3 rfl) rfl rfl ?_
    refine RL.store sh22 rfl rfl rfl hb (by exact Nat.le_of_ble_eq_true rfl) (by rfl) rfl (fun w11 z11 hb a11 => ?_)
    have G := G.trans a11
    have hb_3 := hb_3.upd a11 n__3.symm
    have hb_4 := hb_4.upd a11 n__4.symm
    have hb_6 := hb_6.upd a11 n__6.symm
    have hF' := hF'.updD a11 d_hF'_b
    have hb : Has w11 b ([.slice p.a1 m.map.length p.c1, .slice p.a2 m.tab.length p.c2, .slice p.a3 m.row.length p.c3, .slice a' (heapM m.heap o).1.length c']) _ := hb
    refine RL.nil (RC.back ?_)
    refine RC.seq ?_
    refine RC.region rfl ?_
    refine RL.ev (.loadR ([.int .i64 (heapM m.heap o).2.e, .int .i64 (heapM m.heap o).2.a, .int .i64 (heapM m.heap o).2.b]) sh39 rfl hb_6.row rfl) rfl rfl ?_
    refine RL.store sh39 rfl rfl rfl hb_4 (by exact Nat.le_of_ble_eq_true rfl) (by rfl) rfl (fun w12 z12 hb_4 a12 => ?_)
    have hb := hb.upd a12 n__4
    have G := agNew G a12 geG_4
    have hb_3 := hb_3.upd a12 n_3__4
    have hb_6 := hb_6.upd a12 n_4__6.symm
    have hF' := hF'.updD a12 d_hF'_b_4
    have hb_4 : Has w12 b_4 ([.int .i64 (heapM m.heap o).2.e, .int .i64 (heapM m.heap o).2.a, .int .i64 (heapM m.heap o).2.b]) _ := hb_4.now (by kernel_rfl)
    refine RL.nil (RC.back ?_)
    refine RC.done (rs := [.cell 4 39]) (vs := [_]) rfl rfl ⟨⟨_, rfl, .inr ⟨[.int .i64 (heapM m.heap o).2.e, .int .i64 (heapM m.heap o).2.a, .int .i64 (heapM m.heap o).2.b], sh39, hb_4.row, rfl⟩⟩, trivial⟩ ?_
    -- end 2
    exact ⟨a', c', M', rfl, hc', hF', hup, hb, G⟩
end Go.Proofs.Ytjafbffehmombaa
