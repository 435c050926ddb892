/-
  What the law ModelReads leans on, part 3.
-/
import Derived.Test.YtfkanamdlndkfaaPModelReads2
set_option linter.unusedVariables false
set_option linter.unusedSimpArgs false
namespace Go.Proofs.Ytfkanamdlndkfaa
open Go Go.XL
theorem c_boxes (w : World) : FC Try.prog 25 [] w (Val (.agg #[.func (.func 34) #[] #[], .func (.func 36) #[] #[], .func (.func 37) #[] #[], .func (.func 39) #[] #[]]) w) := by
 refine FC.intro Try.func25 rfl Try.ntmps25 rfl ?_
 have S := Sub.refl w
 refine RC.seq (RC.region rfl ?_);refine RL.alloc ze61 rfl rfl (fun b_0 w_0 e_0 z_0 hb_0 s_0 => ?_);have ge_0 := S.le e_0;have S := S.trans s_0;refine RL.nil (RC.back (RC.seq (RC.region rfl ?_)));refine RL.eS (.buildA ze61 ar61 rfl rfl) ?_;refine RL.stS sh61 rfl rfl rfl hb_0 (fun w1 z1 hb_0 a1 => ?_);have S := S.upd a1 ge_0
 have hb_0 : Has w1 b_0 ([.func (.func 34) #[] #[], .func (.func 36) #[] #[], .func (.func 37) #[] #[], .func (.func 39) #[] #[]]) _ := hb_0.now (by kernel_rfl)
 refine RL.nil (RC.back ?_);refine RC.done (rs := [.cell 0 61]) (vs := [_]) rfl rfl ⟨⟨_, rfl, .inr ⟨[.func (.func 34) #[] #[], .func (.func 36) #[] #[], .func (.func 37) #[] #[], .func (.func 39) #[] #[]], sh61, hb_0.row, rfl⟩⟩, trivial⟩ ?_
 exact ⟨rfl, S⟩
theorem c_box1 (b : Nat) (p : Ph) (m : Mo) (hs : Srt m.map) (hl200 : m.map.length ≤ 200) (hc : m.map.length ≤ p.c1) (o : OpT) (hok : okP o) (w : World) (M : Nat → Prop) (hF : Ft M (fun u => Sl u p.a1 2 (m.map.map It.cells)) w) (hb : Has w b (moC p m) 25) (hn : ∀ k, M k → k ≠ b) :
  FC Try.prog 34 [.pointer (some ⟨b, 0, none⟩), .agg o.cells.toArray] w (fun u w' => ∃ a' c' M', u = .agg (pairsM m.map o).2.cells.toArray ∧ (pairsM m.map o).1.length ≤ c' ∧ Ft M' (fun u => Sl u a' 2 ((pairsM m.map o).1.map It.cells)) w' ∧ Up M w M' ∧ Has w' b [.slice a' (pairsM m.map o).1.length c', .slice p.a2 m.tab.length p.c2, .slice p.a3 m.row.length p.c3, .slice p.a4 m.heap.length p.c4] 25 ∧ Agr (· = b) w w') := by
 have G : Agr (· = b) w w := Agr.refl _ _
 refine FC.intro Try.func34 rfl Try.ntmps34 rfl ?_
 have ltb := hb.lt
 refine RC.seq (RC.region rfl ?_);refine RL.box rfl rfl rfl (fun b_3 w_3 e_3 z_3 hb_3 s_3 => ?_);have n__3 := hb.ne e_3;have d_hF_b_3 := hF.neNew e_3;have hb := hb.sub s_3;have hF := hF.sub s_3;have G := G.trans s_3.agr
 have hb_3 : Has w_3 b_3 ([.int .i64 o.box, .int .i64 o.kind, .int .i64 o.a, .int .i64 o.b]) _ := hb_3
 refine RL.alloc ze31 rfl rfl (fun b_4 w_4 e_4 z_4 hb_4 s_4 => ?_);have n__4 := hb.ne e_4;have n_3__4 := hb_3.ne e_4;have d_hF_b_4 := hF.neNew e_4;have hb := hb.sub s_4;have hF := hF.sub s_4
 have geG_4 := agLe G e_4
 have G := G.trans s_4.agr;have hb_3 := hb_3.sub s_4;refine RL.nil (RC.back (RC.seq ?_));refine RC.drawD (fun k => False) [11] w_4.heap.size 12 rfl rfl mxo (fun w1 s2 => ?_);have ltD_b := hb.lt;have ltD_b_3 := hb_3.lt;have szD := Nat.le_refl w_4.heap.size;have hb := hb.sub s2;have hF := hF.sub s2;have G := G.trans s2.agr;have hb_3 := hb_3.sub s2;have hb_4 := hb_4.sub s2;have szD := Nat.le_trans szD s2.size;refine RD.tS 0 rfl (fun w' s' => .move rfl) ?_;refine RD.tS 1 rfl (fun w' s' => .nilCheck rfl) ?_;refine RD.tS 2 rfl (fun w' s' => .field0 fo25_0 rfl) ?_;refine RD.tS 3 rfl (fun w' s' => .load1 sh22 rfl ((hb.step s' (fun e => e.elim (fun e => e.elim) (fun e => Nat.not_le.2 ltD_b e))).cell rfl)) ?_;refine RD.tS 4 rfl (fun w' s' => .loadR ([.int .i64 o.box, .int .i64 o.kind, .int .i64 o.a, .int .i64 o.b]) sh27 rfl (hb_3.step s' (fun e => e.elim (fun e => e.elim) (fun e => Nat.not_le.2 ltD_b_3 e))).row rfl) ?_;refine RD.all [5, 9] (by kernel_rfl) rfl (RDs.cons rfl ?_ (RDs.cons rfl ?_ (RDs.nil)))
 ·
  refine RL.call rfl ok35 (c_pairs m.map p.a1 p.c1 _ rfl hs hl200 hc o hok w1 M hF) rfl rfl ?_;rintro _ w3 ⟨s4, a', c', M', rfl, hc', hF', hup⟩
  have d_hF'_b := upNe hup hn hb.lt
  have d_hF'_b_3 := upNe hup d_hF_b_3 hb_3.lt
  have d_hF'_b_4 := upNe hup d_hF_b_4 hb_4.lt
  have hup := hup.le G.size
  have hb := hb.sub s4;have hF := hF.sub s4;have G := G.trans s4.agr;have hb_3 := hb_3.sub s4;have hb_4 := hb_4.sub s4;have szD := Nat.le_trans szD s4.size;refine RD.back s4.agr ?_;refine RD.tS 6 rfl (fun w' s' => .move rfl) ?_;refine RD.tS 7 rfl (fun w' s' => .extract rfl rfl) ?_;refine RD.tS 8 rfl (fun w' s' => .extract rfl rfl) ?_;refine RD.oneS 9 rfl ?_;refine RL.alloc ze31 rfl rfl (fun b_6 w_6 e_6 z_6 hb_6 s_6 => ?_)
  have fr_b_6 : w_4.heap.size ≤ b_6 := by rw [e_6]; exact szD
  have n__6 := hb.ne e_6;have n_3__6 := hb_3.ne e_6;have n_4__6 := hb_4.ne e_6
  have d_hF'_b_6 := hF'.neNew e_6
  have hb := hb.sub s_6
  have geG_6 := agLe G e_6
  have G := G.trans s_6.agr;have hb_3 := hb_3.sub s_6;have hb_4 := hb_4.sub s_6;have szD := Nat.le_trans szD s_6.size
  have hF' := hF'.sub s_6
  refine RD.back s_6.agr ?_;refine RD.tS 10 rfl (fun w' s' => .assign rfl) ?_;refine RD.oneS 11 rfl ?_;refine RL.stS sh31 rfl rfl rfl hb_6 (fun w5 z5 hb_6 a5 => ?_);have hb := hb.upd a5 n__6
  have G := agNew G a5 geG_6
  have hb_3 := hb_3.upd a5 n_3__6;have hb_4 := hb_4.upd a5 n_4__6;have szD := Nat.le_trans szD a5.size
  have hF' := hF'.updD a5 d_hF'_b_6
  have hb_6 : Has w5 b_6 ([.int .i64 (pairsM m.map o).2.e, .int .i64 (pairsM m.map o).2.a, .int .i64 (pairsM m.map o).2.b]) _ := hb_6.now (by kernel_rfl)
  refine RD.backW rfl (a5.mono fun k _ e => e ▸ (.inr fr_b_6)) ?_;refine RD.done (by kernel_rfl) (RC.back ?_);refine RC.seq (RC.region rfl ?_);refine RL.mvS rfl ?_;refine RL.mvS rfl ?_;refine RL.eS (.nilCheck rfl) ?_;refine RL.eS (.field0 fo25_0 rfl) ?_;refine RL.stS sh22 rfl rfl rfl hb (fun w6 z6 hb a6 => ?_);have G := G.trans a6;have hb_3 := hb_3.upd a6 n__3.symm;have hb_4 := hb_4.upd a6 n__4.symm
  have hF' := hF'.updD a6 d_hF'_b
  have hb_6 := hb_6.upd a6 n__6.symm
  have hb : Has w6 b ([.slice a' (pairsM m.map o).1.length c', .slice p.a2 m.tab.length p.c2, .slice p.a3 m.row.length p.c3, .slice p.a4 m.heap.length p.c4]) _ := hb
  refine RL.nil (RC.back (RC.seq (RC.region rfl ?_)));refine RL.eS (.loadR ([.int .i64 (pairsM m.map o).2.e, .int .i64 (pairsM m.map o).2.a, .int .i64 (pairsM m.map o).2.b]) sh31 rfl hb_6.row rfl) ?_;refine RL.stS sh31 rfl rfl rfl hb_4 (fun w7 z7 hb_4 a7 => ?_);have hb := hb.upd a7 n__4
  have G := agNew G a7 geG_4
  have hb_3 := hb_3.upd a7 n_3__4
  have hF' := hF'.updD a7 d_hF'_b_4
  have hb_6 := hb_6.upd a7 n_4__6.symm
  have hb_4 : Has w7 b_4 ([.int .i64 (pairsM m.map o).2.e, .int .i64 (pairsM m.map o).2.a, .int .i64 (pairsM m.map o).2.b]) _ := hb_4.now (by kernel_rfl)
  refine RL.nil (RC.back ?_);refine RC.done (rs := [.cell 4 31]) (vs := [_]) rfl rfl ⟨⟨_, rfl, .inr ⟨[.int .i64 (pairsM m.map o).2.e, .int .i64 (pairsM m.map o).2.a, .int .i64 (pairsM m.map o).2.b], sh31, hb_4.row, rfl⟩⟩, trivial⟩ ?_
  exact ⟨a', c', M', rfl, hc', hF', hup, hb, G⟩
 ·
  refine RL.alloc ze31 rfl rfl (fun b_6 w_6 e_6 z_6 hb_6 s_6 => ?_)
  have fr_b_6 : w_4.heap.size ≤ b_6 := by rw [e_6]; exact szD
  have n__6 := hb.ne e_6;have n_4__6 := hb_4.ne e_6;have d_hF_b_6 := hF.neNew e_6;have hb := hb.sub s_6;have hF := hF.sub s_6
  have geG_6 := agLe G e_6
  have G := G.trans s_6.agr;have hb_3 := hb_3.sub s_6;have hb_4 := hb_4.sub s_6;refine RD.back s_6.agr ?_;refine RD.oneS 5 rfl ?_;refine RL.call rfl ok35 (c_pairs m.map p.a1 p.c1 _ rfl hs hl200 hc o hok w_6 M hF) rfl rfl ?_;rintro _ w8 ⟨s9, a', c', M', rfl, hc', hF', hup⟩
  have d_hF'_b := upNe hup hn hb.lt
  have d_hF'_b_3 := upNe hup d_hF_b_3 hb_3.lt
  have d_hF'_b_4 := upNe hup d_hF_b_4 hb_4.lt
  have d_hF'_b_6 := upNe hup d_hF_b_6 hb_6.lt
  have hup := hup.le G.size
  have hb := hb.sub s9;have G := G.trans s9.agr;have hb_4 := hb_4.sub s9;have hb_6 := hb_6.sub s9;refine RD.back s9.agr ?_;refine RD.tS 6 rfl (fun w' s' => .move rfl) ?_;refine RD.tS 7 rfl (fun w' s' => .extract rfl rfl) ?_;refine RD.tS 8 rfl (fun w' s' => .extract rfl rfl) ?_;refine RD.tS 10 rfl (fun w' s' => .assign rfl) ?_;refine RD.oneS 11 rfl ?_;refine RL.stS sh31 rfl rfl rfl hb_6 (fun w10 z10 hb_6 a10 => ?_);have hb := hb.upd a10 n__6
  have G := agNew G a10 geG_6
  have hb_4 := hb_4.upd a10 n_4__6
  have hF' := hF'.updD a10 d_hF'_b_6
  have hb_6 : Has w10 b_6 ([.int .i64 (pairsM m.map o).2.e, .int .i64 (pairsM m.map o).2.a, .int .i64 (pairsM m.map o).2.b]) _ := hb_6.now (by kernel_rfl)
  refine RD.backW rfl (a10.mono fun k _ e => e ▸ (.inr fr_b_6)) ?_;refine RD.done (by kernel_rfl) (RC.back ?_);refine RC.seq (RC.region rfl ?_);refine RL.mvS rfl ?_;refine RL.mvS rfl ?_;refine RL.eS (.nilCheck rfl) ?_;refine RL.eS (.field0 fo25_0 rfl) ?_;refine RL.stS sh22 rfl rfl rfl hb (fun w11 z11 hb a11 => ?_);have G := G.trans a11;have hb_4 := hb_4.upd a11 n__4.symm;have hb_6 := hb_6.upd a11 n__6.symm
  have hF' := hF'.updD a11 d_hF'_b
  have hb : Has w11 b ([.slice a' (pairsM m.map o).1.length c', .slice p.a2 m.tab.length p.c2, .slice p.a3 m.row.length p.c3, .slice p.a4 m.heap.length p.c4]) _ := hb
  refine RL.nil (RC.back (RC.seq (RC.region rfl ?_)));refine RL.eS (.loadR ([.int .i64 (pairsM m.map o).2.e, .int .i64 (pairsM m.map o).2.a, .int .i64 (pairsM m.map o).2.b]) sh31 rfl hb_6.row rfl) ?_;refine RL.stS sh31 rfl rfl rfl hb_4 (fun w12 z12 hb_4 a12 => ?_);have hb := hb.upd a12 n__4
  have G := agNew G a12 geG_4
  have hF' := hF'.updD a12 d_hF'_b_4
  have hb_4 : Has w12 b_4 ([.int .i64 (pairsM m.map o).2.e, .int .i64 (pairsM m.map o).2.a, .int .i64 (pairsM m.map o).2.b]) _ := hb_4.now (by kernel_rfl)
  refine RL.nil (RC.back ?_);refine RC.done (rs := [.cell 4 31]) (vs := [_]) rfl rfl ⟨⟨_, rfl, .inr ⟨[.int .i64 (pairsM m.map o).2.e, .int .i64 (pairsM m.map o).2.a, .int .i64 (pairsM m.map o).2.b], sh31, hb_4.row, rfl⟩⟩, trivial⟩ ?_
  exact ⟨a', c', M', rfl, hc', hF', hup, hb, G⟩
theorem c_box2 (b : Nat) (p : Ph) (m : Mo) (hs : Srt m.tab) (hl200 : m.tab.length ≤ 200) (hc : m.tab.length ≤ p.c2) (o : OpT) (hok : okP o) (w : World) (M : Nat → Prop) (hF : Ft M (fun u => Sl u p.a2 2 (m.tab.map It.cells)) w) (hb : Has w b (moC p m) 25) (hn : ∀ k, M k → k ≠ b) :
  FC Try.prog 36 [.pointer (some ⟨b, 0, none⟩), .agg o.cells.toArray] w (fun u w' => ∃ a' c' M', u = .agg (pairsM m.tab o).2.cells.toArray ∧ (pairsM m.tab o).1.length ≤ c' ∧ Ft M' (fun u => Sl u a' 2 ((pairsM m.tab o).1.map It.cells)) w' ∧ Up M w M' ∧ Has w' b [.slice p.a1 m.map.length p.c1, .slice a' (pairsM m.tab o).1.length c', .slice p.a3 m.row.length p.c3, .slice p.a4 m.heap.length p.c4] 25 ∧ Agr (· = b) w w') := by
 have G : Agr (· = b) w w := Agr.refl _ _
 refine FC.intro Try.func36 rfl Try.ntmps36 rfl ?_
 have ltb := hb.lt
 refine RC.seq (RC.region rfl ?_);refine RL.box rfl rfl rfl (fun b_3 w_3 e_3 z_3 hb_3 s_3 => ?_);have n__3 := hb.ne e_3;have d_hF_b_3 := hF.neNew e_3;have hb := hb.sub s_3;have hF := hF.sub s_3;have G := G.trans s_3.agr
 have hb_3 : Has w_3 b_3 ([.int .i64 o.box, .int .i64 o.kind, .int .i64 o.a, .int .i64 o.b]) _ := hb_3
 refine RL.alloc ze31 rfl rfl (fun b_4 w_4 e_4 z_4 hb_4 s_4 => ?_);have n__4 := hb.ne e_4;have n_3__4 := hb_3.ne e_4;have d_hF_b_4 := hF.neNew e_4;have hb := hb.sub s_4;have hF := hF.sub s_4
 have geG_4 := agLe G e_4
 have G := G.trans s_4.agr;have hb_3 := hb_3.sub s_4;refine RL.nil (RC.back (RC.seq ?_));refine RC.drawD (fun k => False) [11] w_4.heap.size 12 rfl rfl mxo (fun w1 s2 => ?_);have ltD_b := hb.lt;have ltD_b_3 := hb_3.lt;have szD := Nat.le_refl w_4.heap.size;have hb := hb.sub s2;have hF := hF.sub s2;have G := G.trans s2.agr;have hb_3 := hb_3.sub s2;have hb_4 := hb_4.sub s2;have szD := Nat.le_trans szD s2.size;refine RD.tS 0 rfl (fun w' s' => .move rfl) ?_;refine RD.tS 1 rfl (fun w' s' => .nilCheck rfl) ?_;refine RD.tS 2 rfl (fun w' s' => .field0 fo25_1 rfl) ?_;refine RD.tS 3 rfl (fun w' s' => .load1 sh22 rfl ((hb.step s' (fun e => e.elim (fun e => e.elim) (fun e => Nat.not_le.2 ltD_b e))).cell rfl)) ?_;refine RD.tS 4 rfl (fun w' s' => .loadR ([.int .i64 o.box, .int .i64 o.kind, .int .i64 o.a, .int .i64 o.b]) sh27 rfl (hb_3.step s' (fun e => e.elim (fun e => e.elim) (fun e => Nat.not_le.2 ltD_b_3 e))).row rfl) ?_;refine RD.all [5, 9] (by kernel_rfl) rfl (RDs.cons rfl ?_ (RDs.cons rfl ?_ (RDs.nil)))
 ·
  refine RL.call rfl ok35 (c_pairs m.tab p.a2 p.c2 _ rfl hs hl200 hc o hok w1 M hF) rfl rfl ?_;rintro _ w3 ⟨s4, a', c', M', rfl, hc', hF', hup⟩
  have d_hF'_b := upNe hup hn hb.lt
  have d_hF'_b_3 := upNe hup d_hF_b_3 hb_3.lt
  have d_hF'_b_4 := upNe hup d_hF_b_4 hb_4.lt
  have hup := hup.le G.size
  have hb := hb.sub s4;have hF := hF.sub s4;have G := G.trans s4.agr;have hb_3 := hb_3.sub s4;have hb_4 := hb_4.sub s4;have szD := Nat.le_trans szD s4.size;refine RD.back s4.agr ?_;refine RD.tS 6 rfl (fun w' s' => .move rfl) ?_;refine RD.tS 7 rfl (fun w' s' => .extract rfl rfl) ?_;refine RD.tS 8 rfl (fun w' s' => .extract rfl rfl) ?_;refine RD.oneS 9 rfl ?_;refine RL.alloc ze31 rfl rfl (fun b_6 w_6 e_6 z_6 hb_6 s_6 => ?_)
  have fr_b_6 : w_4.heap.size ≤ b_6 := by rw [e_6]; exact szD
  have n__6 := hb.ne e_6;have n_3__6 := hb_3.ne e_6;have n_4__6 := hb_4.ne e_6
  have d_hF'_b_6 := hF'.neNew e_6
  have hb := hb.sub s_6
  have geG_6 := agLe G e_6
  have G := G.trans s_6.agr;have hb_3 := hb_3.sub s_6;have hb_4 := hb_4.sub s_6;have szD := Nat.le_trans szD s_6.size
  have hF' := hF'.sub s_6
  refine RD.back s_6.agr ?_;refine RD.tS 10 rfl (fun w' s' => .assign rfl) ?_;refine RD.oneS 11 rfl ?_;refine RL.stS sh31 rfl rfl rfl hb_6 (fun w5 z5 hb_6 a5 => ?_);have hb := hb.upd a5 n__6
  have G := agNew G a5 geG_6
  have hb_3 := hb_3.upd a5 n_3__6;have hb_4 := hb_4.upd a5 n_4__6;have szD := Nat.le_trans szD a5.size
  have hF' := hF'.updD a5 d_hF'_b_6
  have hb_6 : Has w5 b_6 ([.int .i64 (pairsM m.tab o).2.e, .int .i64 (pairsM m.tab o).2.a, .int .i64 (pairsM m.tab o).2.b]) _ := hb_6.now (by kernel_rfl)
  refine RD.backW rfl (a5.mono fun k _ e => e ▸ (.inr fr_b_6)) ?_;refine RD.done (by kernel_rfl) (RC.back ?_);refine RC.seq (RC.region rfl ?_);refine RL.mvS rfl ?_;refine RL.mvS rfl ?_;refine RL.eS (.nilCheck rfl) ?_;refine RL.eS (.field0 fo25_1 rfl) ?_;refine RL.stS sh22 rfl rfl rfl hb (fun w6 z6 hb a6 => ?_);have G := G.trans a6;have hb_3 := hb_3.upd a6 n__3.symm;have hb_4 := hb_4.upd a6 n__4.symm
  have hF' := hF'.updD a6 d_hF'_b
  have hb_6 := hb_6.upd a6 n__6.symm
  have hb : Has w6 b ([.slice p.a1 m.map.length p.c1, .slice a' (pairsM m.tab o).1.length c', .slice p.a3 m.row.length p.c3, .slice p.a4 m.heap.length p.c4]) _ := hb
  refine RL.nil (RC.back (RC.seq (RC.region rfl ?_)));refine RL.eS (.loadR ([.int .i64 (pairsM m.tab o).2.e, .int .i64 (pairsM m.tab o).2.a, .int .i64 (pairsM m.tab o).2.b]) sh31 rfl hb_6.row rfl) ?_;refine RL.stS sh31 rfl rfl rfl hb_4 (fun w7 z7 hb_4 a7 => ?_);have hb := hb.upd a7 n__4
  have G := agNew G a7 geG_4
  have hb_3 := hb_3.upd a7 n_3__4
  have hF' := hF'.updD a7 d_hF'_b_4
  have hb_6 := hb_6.upd a7 n_4__6.symm
  have hb_4 : Has w7 b_4 ([.int .i64 (pairsM m.tab o).2.e, .int .i64 (pairsM m.tab o).2.a, .int .i64 (pairsM m.tab o).2.b]) _ := hb_4.now (by kernel_rfl)
  refine RL.nil (RC.back ?_);refine RC.done (rs := [.cell 4 31]) (vs := [_]) rfl rfl ⟨⟨_, rfl, .inr ⟨[.int .i64 (pairsM m.tab o).2.e, .int .i64 (pairsM m.tab o).2.a, .int .i64 (pairsM m.tab o).2.b], sh31, hb_4.row, rfl⟩⟩, trivial⟩ ?_
  exact ⟨a', c', M', rfl, hc', hF', hup, hb, G⟩
 ·
  refine RL.alloc ze31 rfl rfl (fun b_6 w_6 e_6 z_6 hb_6 s_6 => ?_)
  have fr_b_6 : w_4.heap.size ≤ b_6 := by rw [e_6]; exact szD
  have n__6 := hb.ne e_6;have n_4__6 := hb_4.ne e_6;have d_hF_b_6 := hF.neNew e_6;have hb := hb.sub s_6;have hF := hF.sub s_6
  have geG_6 := agLe G e_6
  have G := G.trans s_6.agr;have hb_3 := hb_3.sub s_6;have hb_4 := hb_4.sub s_6;refine RD.back s_6.agr ?_;refine RD.oneS 5 rfl ?_;refine RL.call rfl ok35 (c_pairs m.tab p.a2 p.c2 _ rfl hs hl200 hc o hok w_6 M hF) rfl rfl ?_;rintro _ w8 ⟨s9, a', c', M', rfl, hc', hF', hup⟩
  have d_hF'_b := upNe hup hn hb.lt
  have d_hF'_b_3 := upNe hup d_hF_b_3 hb_3.lt
  have d_hF'_b_4 := upNe hup d_hF_b_4 hb_4.lt
  have d_hF'_b_6 := upNe hup d_hF_b_6 hb_6.lt
  have hup := hup.le G.size
  have hb := hb.sub s9;have G := G.trans s9.agr;have hb_4 := hb_4.sub s9;have hb_6 := hb_6.sub s9;refine RD.back s9.agr ?_;refine RD.tS 6 rfl (fun w' s' => .move rfl) ?_;refine RD.tS 7 rfl (fun w' s' => .extract rfl rfl) ?_;refine RD.tS 8 rfl (fun w' s' => .extract rfl rfl) ?_;refine RD.tS 10 rfl (fun w' s' => .assign rfl) ?_;refine RD.oneS 11 rfl ?_;refine RL.stS sh31 rfl rfl rfl hb_6 (fun w10 z10 hb_6 a10 => ?_);have hb := hb.upd a10 n__6
  have G := agNew G a10 geG_6
  have hb_4 := hb_4.upd a10 n_4__6
  have hF' := hF'.updD a10 d_hF'_b_6
  have hb_6 : Has w10 b_6 ([.int .i64 (pairsM m.tab o).2.e, .int .i64 (pairsM m.tab o).2.a, .int .i64 (pairsM m.tab o).2.b]) _ := hb_6.now (by kernel_rfl)
  refine RD.backW rfl (a10.mono fun k _ e => e ▸ (.inr fr_b_6)) ?_;refine RD.done (by kernel_rfl) (RC.back ?_);refine RC.seq (RC.region rfl ?_);refine RL.mvS rfl ?_;refine RL.mvS rfl ?_;refine RL.eS (.nilCheck rfl) ?_;refine RL.eS (.field0 fo25_1 rfl) ?_;refine RL.stS sh22 rfl rfl rfl hb (fun w11 z11 hb a11 => ?_);have G := G.trans a11;have hb_4 := hb_4.upd a11 n__4.symm;have hb_6 := hb_6.upd a11 n__6.symm
  have hF' := hF'.updD a11 d_hF'_b
  have hb : Has w11 b ([.slice p.a1 m.map.length p.c1, .slice a' (pairsM m.tab o).1.length c', .slice p.a3 m.row.length p.c3, .slice p.a4 m.heap.length p.c4]) _ := hb
  refine RL.nil (RC.back (RC.seq (RC.region rfl ?_)));refine RL.eS (.loadR ([.int .i64 (pairsM m.tab o).2.e, .int .i64 (pairsM m.tab o).2.a, .int .i64 (pairsM m.tab o).2.b]) sh31 rfl hb_6.row rfl) ?_;refine RL.stS sh31 rfl rfl rfl hb_4 (fun w12 z12 hb_4 a12 => ?_);have hb := hb.upd a12 n__4
  have G := agNew G a12 geG_4
  have hF' := hF'.updD a12 d_hF'_b_4
  have hb_4 : Has w12 b_4 ([.int .i64 (pairsM m.tab o).2.e, .int .i64 (pairsM m.tab o).2.a, .int .i64 (pairsM m.tab o).2.b]) _ := hb_4.now (by kernel_rfl)
  refine RL.nil (RC.back ?_);refine RC.done (rs := [.cell 4 31]) (vs := [_]) rfl rfl ⟨⟨_, rfl, .inr ⟨[.int .i64 (pairsM m.tab o).2.e, .int .i64 (pairsM m.tab o).2.a, .int .i64 (pairsM m.tab o).2.b], sh31, hb_4.row, rfl⟩⟩, trivial⟩ ?_
  exact ⟨a', c', M', rfl, hc', hF', hup, hb, G⟩
theorem c_box3 (b : Nat) (p : Ph) (m : Mo) (hs : True) (hl200 : m.row.length ≤ 200) (hc : m.row.length ≤ p.c3) (o : OpT) (hok : okP o) (w : World) (M : Nat → Prop) (hF : Ft M (fun u => Sl u p.a3 1 (m.row.map fun x => [i6 x])) w) (hb : Has w b (moC p m) 25) (hn : ∀ k, M k → k ≠ b) :
  FC Try.prog 37 [.pointer (some ⟨b, 0, none⟩), .agg o.cells.toArray] w (fun u w' => ∃ a' c' M', u = .agg (rowM m.row o).2.cells.toArray ∧ (rowM m.row o).1.length ≤ c' ∧ Ft M' (fun u => Sl u a' 1 ((rowM m.row o).1.map fun x => [i6 x])) w' ∧ Up M w M' ∧ Has w' b [.slice p.a1 m.map.length p.c1, .slice p.a2 m.tab.length p.c2, .slice a' (rowM m.row o).1.length c', .slice p.a4 m.heap.length p.c4] 25 ∧ Agr (· = b) w w') := by
 have G : Agr (· = b) w w := Agr.refl _ _
 refine FC.intro Try.func37 rfl Try.ntmps37 rfl ?_
 have ltb := hb.lt
 refine RC.seq (RC.region rfl ?_);refine RL.box rfl rfl rfl (fun b_3 w_3 e_3 z_3 hb_3 s_3 => ?_);have n__3 := hb.ne e_3;have d_hF_b_3 := hF.neNew e_3;have hb := hb.sub s_3;have hF := hF.sub s_3;have G := G.trans s_3.agr
 have hb_3 : Has w_3 b_3 ([.int .i64 o.box, .int .i64 o.kind, .int .i64 o.a, .int .i64 o.b]) _ := hb_3
 refine RL.alloc ze31 rfl rfl (fun b_4 w_4 e_4 z_4 hb_4 s_4 => ?_);have n__4 := hb.ne e_4;have n_3__4 := hb_3.ne e_4;have d_hF_b_4 := hF.neNew e_4;have hb := hb.sub s_4;have hF := hF.sub s_4
 have geG_4 := agLe G e_4
 have G := G.trans s_4.agr;have hb_3 := hb_3.sub s_4;refine RL.nil (RC.back (RC.seq ?_));refine RC.drawD (fun k => False) [11] w_4.heap.size 12 rfl rfl mxo (fun w1 s2 => ?_);have ltD_b := hb.lt;have ltD_b_3 := hb_3.lt;have szD := Nat.le_refl w_4.heap.size;have hb := hb.sub s2;have hF := hF.sub s2;have G := G.trans s2.agr;have hb_3 := hb_3.sub s2;have hb_4 := hb_4.sub s2;have szD := Nat.le_trans szD s2.size;refine RD.tS 0 rfl (fun w' s' => .move rfl) ?_;refine RD.tS 1 rfl (fun w' s' => .nilCheck rfl) ?_;refine RD.tS 2 rfl (fun w' s' => .field0 fo25_2 rfl) ?_;refine RD.tS 3 rfl (fun w' s' => .load1 sh23 rfl ((hb.step s' (fun e => e.elim (fun e => e.elim) (fun e => Nat.not_le.2 ltD_b e))).cell rfl)) ?_;refine RD.tS 4 rfl (fun w' s' => .loadR ([.int .i64 o.box, .int .i64 o.kind, .int .i64 o.a, .int .i64 o.b]) sh27 rfl (hb_3.step s' (fun e => e.elim (fun e => e.elim) (fun e => Nat.not_le.2 ltD_b_3 e))).row rfl) ?_;refine RD.all [5, 9] (by kernel_rfl) rfl (RDs.cons rfl ?_ (RDs.cons rfl ?_ (RDs.nil)))
 ·
  refine RL.call rfl ok38 (c_row m.row p.a3 p.c3 _ rfl hl200 hc o hok w1 M hF) rfl rfl ?_;rintro _ w3 ⟨s4, a', c', M', rfl, hc', hF', hup⟩
  have d_hF'_b := upNe hup hn hb.lt
  have d_hF'_b_3 := upNe hup d_hF_b_3 hb_3.lt
  have d_hF'_b_4 := upNe hup d_hF_b_4 hb_4.lt
  have hup := hup.le G.size
  have hb := hb.sub s4;have hF := hF.sub s4;have G := G.trans s4.agr;have hb_3 := hb_3.sub s4;have hb_4 := hb_4.sub s4;have szD := Nat.le_trans szD s4.size;refine RD.back s4.agr ?_;refine RD.tS 6 rfl (fun w' s' => .move rfl) ?_;refine RD.tS 7 rfl (fun w' s' => .extract rfl rfl) ?_;refine RD.tS 8 rfl (fun w' s' => .extract rfl rfl) ?_;refine RD.oneS 9 rfl ?_;refine RL.alloc ze31 rfl rfl (fun b_6 w_6 e_6 z_6 hb_6 s_6 => ?_)
  have fr_b_6 : w_4.heap.size ≤ b_6 := by rw [e_6]; exact szD
  have n__6 := hb.ne e_6;have n_3__6 := hb_3.ne e_6;have n_4__6 := hb_4.ne e_6
  have d_hF'_b_6 := hF'.neNew e_6
  have hb := hb.sub s_6
  have geG_6 := agLe G e_6
  have G := G.trans s_6.agr;have hb_3 := hb_3.sub s_6;have hb_4 := hb_4.sub s_6;have szD := Nat.le_trans szD s_6.size
  have hF' := hF'.sub s_6
  refine RD.back s_6.agr ?_;refine RD.tS 10 rfl (fun w' s' => .assign rfl) ?_;refine RD.oneS 11 rfl ?_;refine RL.stS sh31 rfl rfl rfl hb_6 (fun w5 z5 hb_6 a5 => ?_);have hb := hb.upd a5 n__6
  have G := agNew G a5 geG_6
  have hb_3 := hb_3.upd a5 n_3__6;have hb_4 := hb_4.upd a5 n_4__6;have szD := Nat.le_trans szD a5.size
  have hF' := hF'.updD a5 d_hF'_b_6
  have hb_6 : Has w5 b_6 ([.int .i64 (rowM m.row o).2.e, .int .i64 (rowM m.row o).2.a, .int .i64 (rowM m.row o).2.b]) _ := hb_6.now (by kernel_rfl)
  refine RD.backW rfl (a5.mono fun k _ e => e ▸ (.inr fr_b_6)) ?_;refine RD.done (by kernel_rfl) (RC.back ?_);refine RC.seq (RC.region rfl ?_);refine RL.mvS rfl ?_;refine RL.mvS rfl ?_;refine RL.eS (.nilCheck rfl) ?_;refine RL.eS (.field0 fo25_2 rfl) ?_;refine RL.stS sh23 rfl rfl rfl hb (fun w6 z6 hb a6 => ?_);have G := G.trans a6;have hb_3 := hb_3.upd a6 n__3.symm;have hb_4 := hb_4.upd a6 n__4.symm
  have hF' := hF'.updD a6 d_hF'_b
  have hb_6 := hb_6.upd a6 n__6.symm
  have hb : Has w6 b ([.slice p.a1 m.map.length p.c1, .slice p.a2 m.tab.length p.c2, .slice a' (rowM m.row o).1.length c', .slice p.a4 m.heap.length p.c4]) _ := hb
  refine RL.nil (RC.back (RC.seq (RC.region rfl ?_)));refine RL.eS (.loadR ([.int .i64 (rowM m.row o).2.e, .int .i64 (rowM m.row o).2.a, .int .i64 (rowM m.row o).2.b]) sh31 rfl hb_6.row rfl) ?_;refine RL.stS sh31 rfl rfl rfl hb_4 (fun w7 z7 hb_4 a7 => ?_);have hb := hb.upd a7 n__4
  have G := agNew G a7 geG_4
  have hb_3 := hb_3.upd a7 n_3__4
  have hF' := hF'.updD a7 d_hF'_b_4
  have hb_6 := hb_6.upd a7 n_4__6.symm
  have hb_4 : Has w7 b_4 ([.int .i64 (rowM m.row o).2.e, .int .i64 (rowM m.row o).2.a, .int .i64 (rowM m.row o).2.b]) _ := hb_4.now (by kernel_rfl)
  refine RL.nil (RC.back ?_);refine RC.done (rs := [.cell 4 31]) (vs := [_]) rfl rfl ⟨⟨_, rfl, .inr ⟨[.int .i64 (rowM m.row o).2.e, .int .i64 (rowM m.row o).2.a, .int .i64 (rowM m.row o).2.b], sh31, hb_4.row, rfl⟩⟩, trivial⟩ ?_
  exact ⟨a', c', M', rfl, hc', hF', hup, hb, G⟩
 ·
  refine RL.alloc ze31 rfl rfl (fun b_6 w_6 e_6 z_6 hb_6 s_6 => ?_)
  have fr_b_6 : w_4.heap.size ≤ b_6 := by rw [e_6]; exact szD
  have n__6 := hb.ne e_6;have n_4__6 := hb_4.ne e_6;have d_hF_b_6 := hF.neNew e_6;have hb := hb.sub s_6;have hF := hF.sub s_6
  have geG_6 := agLe G e_6
  have G := G.trans s_6.agr;have hb_3 := hb_3.sub s_6;have hb_4 := hb_4.sub s_6;refine RD.back s_6.agr ?_;refine RD.oneS 5 rfl ?_;refine RL.call rfl ok38 (c_row m.row p.a3 p.c3 _ rfl hl200 hc o hok w_6 M hF) rfl rfl ?_;rintro _ w8 ⟨s9, a', c', M', rfl, hc', hF', hup⟩
  have d_hF'_b := upNe hup hn hb.lt
  have d_hF'_b_3 := upNe hup d_hF_b_3 hb_3.lt
  have d_hF'_b_4 := upNe hup d_hF_b_4 hb_4.lt
  have d_hF'_b_6 := upNe hup d_hF_b_6 hb_6.lt
  have hup := hup.le G.size
  have hb := hb.sub s9;have G := G.trans s9.agr;have hb_4 := hb_4.sub s9;have hb_6 := hb_6.sub s9;refine RD.back s9.agr ?_;refine RD.tS 6 rfl (fun w' s' => .move rfl) ?_;refine RD.tS 7 rfl (fun w' s' => .extract rfl rfl) ?_;refine RD.tS 8 rfl (fun w' s' => .extract rfl rfl) ?_;refine RD.tS 10 rfl (fun w' s' => .assign rfl) ?_;refine RD.oneS 11 rfl ?_;refine RL.stS sh31 rfl rfl rfl hb_6 (fun w10 z10 hb_6 a10 => ?_);have hb := hb.upd a10 n__6
  have G := agNew G a10 geG_6
  have hb_4 := hb_4.upd a10 n_4__6
  have hF' := hF'.updD a10 d_hF'_b_6
  have hb_6 : Has w10 b_6 ([.int .i64 (rowM m.row o).2.e, .int .i64 (rowM m.row o).2.a, .int .i64 (rowM m.row o).2.b]) _ := hb_6.now (by kernel_rfl)
  refine RD.backW rfl (a10.mono fun k _ e => e ▸ (.inr fr_b_6)) ?_;refine RD.done (by kernel_rfl) (RC.back ?_);refine RC.seq (RC.region rfl ?_);refine RL.mvS rfl ?_;refine RL.mvS rfl ?_;refine RL.eS (.nilCheck rfl) ?_;refine RL.eS (.field0 fo25_2 rfl) ?_;refine RL.stS sh23 rfl rfl rfl hb (fun w11 z11 hb a11 => ?_);have G := G.trans a11;have hb_4 := hb_4.upd a11 n__4.symm;have hb_6 := hb_6.upd a11 n__6.symm
  have hF' := hF'.updD a11 d_hF'_b
  have hb : Has w11 b ([.slice p.a1 m.map.length p.c1, .slice p.a2 m.tab.length p.c2, .slice a' (rowM m.row o).1.length c', .slice p.a4 m.heap.length p.c4]) _ := hb
  refine RL.nil (RC.back (RC.seq (RC.region rfl ?_)));refine RL.eS (.loadR ([.int .i64 (rowM m.row o).2.e, .int .i64 (rowM m.row o).2.a, .int .i64 (rowM m.row o).2.b]) sh31 rfl hb_6.row rfl) ?_;refine RL.stS sh31 rfl rfl rfl hb_4 (fun w12 z12 hb_4 a12 => ?_);have hb := hb.upd a12 n__4
  have G := agNew G a12 geG_4
  have hF' := hF'.updD a12 d_hF'_b_4
  have hb_4 : Has w12 b_4 ([.int .i64 (rowM m.row o).2.e, .int .i64 (rowM m.row o).2.a, .int .i64 (rowM m.row o).2.b]) _ := hb_4.now (by kernel_rfl)
  refine RL.nil (RC.back ?_);refine RC.done (rs := [.cell 4 31]) (vs := [_]) rfl rfl ⟨⟨_, rfl, .inr ⟨[.int .i64 (rowM m.row o).2.e, .int .i64 (rowM m.row o).2.a, .int .i64 (rowM m.row o).2.b], sh31, hb_4.row, rfl⟩⟩, trivial⟩ ?_
  exact ⟨a', c', M', rfl, hc', hF', hup, hb, G⟩
theorem c_box4 (b : Nat) (p : Ph) (m : Mo) (hs : SrtH m.heap) (hl200 : m.heap.length ≤ 200) (hc : m.heap.length ≤ p.c4) (o : OpT) (hok : okP o) (w : World) (M : Nat → Prop) (hF : Ft M (fun u => Sl u p.a4 2 (m.heap.map It.cells)) w) (hb : Has w b (moC p m) 25) (hn : ∀ k, M k → k ≠ b) :
  FC Try.prog 39 [.pointer (some ⟨b, 0, none⟩), .agg o.cells.toArray] w (fun u w' => ∃ a' c' M', u = .agg (heapM m.heap o).2.cells.toArray ∧ (heapM m.heap o).1.length ≤ c' ∧ Ft M' (fun u => Sl u a' 2 ((heapM m.heap o).1.map It.cells)) w' ∧ Up M w M' ∧ Has w' b [.slice p.a1 m.map.length p.c1, .slice p.a2 m.tab.length p.c2, .slice p.a3 m.row.length p.c3, .slice a' (heapM m.heap o).1.length c'] 25 ∧ Agr (· = b) w w') := by
 have G : Agr (· = b) w w := Agr.refl _ _
 refine FC.intro Try.func39 rfl Try.ntmps39 rfl ?_
 have ltb := hb.lt
 refine RC.seq (RC.region rfl ?_);refine RL.box rfl rfl rfl (fun b_3 w_3 e_3 z_3 hb_3 s_3 => ?_);have n__3 := hb.ne e_3;have d_hF_b_3 := hF.neNew e_3;have hb := hb.sub s_3;have hF := hF.sub s_3;have G := G.trans s_3.agr
 have hb_3 : Has w_3 b_3 ([.int .i64 o.box, .int .i64 o.kind, .int .i64 o.a, .int .i64 o.b]) _ := hb_3
 refine RL.alloc ze31 rfl rfl (fun b_4 w_4 e_4 z_4 hb_4 s_4 => ?_);have n__4 := hb.ne e_4;have n_3__4 := hb_3.ne e_4;have d_hF_b_4 := hF.neNew e_4;have hb := hb.sub s_4;have hF := hF.sub s_4
 have geG_4 := agLe G e_4
 have G := G.trans s_4.agr;have hb_3 := hb_3.sub s_4;refine RL.nil (RC.back (RC.seq ?_));refine RC.drawD (fun k => False) [11] w_4.heap.size 12 rfl rfl mxo (fun w1 s2 => ?_);have ltD_b := hb.lt;have ltD_b_3 := hb_3.lt;have szD := Nat.le_refl w_4.heap.size;have hb := hb.sub s2;have hF := hF.sub s2;have G := G.trans s2.agr;have hb_3 := hb_3.sub s2;have hb_4 := hb_4.sub s2;have szD := Nat.le_trans szD s2.size;refine RD.tS 0 rfl (fun w' s' => .move rfl) ?_;refine RD.tS 1 rfl (fun w' s' => .nilCheck rfl) ?_;refine RD.tS 2 rfl (fun w' s' => .field0 fo25_3 rfl) ?_;refine RD.tS 3 rfl (fun w' s' => .load1 sh22 rfl ((hb.step s' (fun e => e.elim (fun e => e.elim) (fun e => Nat.not_le.2 ltD_b e))).cell rfl)) ?_;refine RD.tS 4 rfl (fun w' s' => .loadR ([.int .i64 o.box, .int .i64 o.kind, .int .i64 o.a, .int .i64 o.b]) sh27 rfl (hb_3.step s' (fun e => e.elim (fun e => e.elim) (fun e => Nat.not_le.2 ltD_b_3 e))).row rfl) ?_;refine RD.all [5, 9] (by kernel_rfl) rfl (RDs.cons rfl ?_ (RDs.cons rfl ?_ (RDs.nil)))
 ·
  refine RL.call rfl ok40 (c_heap m.heap p.a4 p.c4 _ rfl hs hl200 hc o hok w1 M hF) rfl rfl ?_;rintro _ w3 ⟨s4, a', c', M', rfl, hc', hF', hup⟩
  have d_hF'_b := upNe hup hn hb.lt
  have d_hF'_b_3 := upNe hup d_hF_b_3 hb_3.lt
  have d_hF'_b_4 := upNe hup d_hF_b_4 hb_4.lt
  have hup := hup.le G.size
  have hb := hb.sub s4;have hF := hF.sub s4;have G := G.trans s4.agr;have hb_3 := hb_3.sub s4;have hb_4 := hb_4.sub s4;have szD := Nat.le_trans szD s4.size;refine RD.back s4.agr ?_;refine RD.tS 6 rfl (fun w' s' => .move rfl) ?_;refine RD.tS 7 rfl (fun w' s' => .extract rfl rfl) ?_;refine RD.tS 8 rfl (fun w' s' => .extract rfl rfl) ?_;refine RD.oneS 9 rfl ?_;refine RL.alloc ze31 rfl rfl (fun b_6 w_6 e_6 z_6 hb_6 s_6 => ?_)
  have fr_b_6 : w_4.heap.size ≤ b_6 := by rw [e_6]; exact szD
  have n__6 := hb.ne e_6;have n_3__6 := hb_3.ne e_6;have n_4__6 := hb_4.ne e_6
  have d_hF'_b_6 := hF'.neNew e_6
  have hb := hb.sub s_6
  have geG_6 := agLe G e_6
  have G := G.trans s_6.agr;have hb_3 := hb_3.sub s_6;have hb_4 := hb_4.sub s_6;have szD := Nat.le_trans szD s_6.size
  have hF' := hF'.sub s_6
  refine RD.back s_6.agr ?_;refine RD.tS 10 rfl (fun w' s' => .assign rfl) ?_;refine RD.oneS 11 rfl ?_;refine RL.stS sh31 rfl rfl rfl hb_6 (fun w5 z5 hb_6 a5 => ?_);have hb := hb.upd a5 n__6
  have G := agNew G a5 geG_6
  have hb_3 := hb_3.upd a5 n_3__6;have hb_4 := hb_4.upd a5 n_4__6;have szD := Nat.le_trans szD a5.size
  have hF' := hF'.updD a5 d_hF'_b_6
  have hb_6 : Has w5 b_6 ([.int .i64 (heapM m.heap o).2.e, .int .i64 (heapM m.heap o).2.a, .int .i64 (heapM m.heap o).2.b]) _ := hb_6.now (by kernel_rfl)
  refine RD.backW rfl (a5.mono fun k _ e => e ▸ (.inr fr_b_6)) ?_;refine RD.done (by kernel_rfl) (RC.back ?_);refine RC.seq (RC.region rfl ?_);refine RL.mvS rfl ?_;refine RL.mvS rfl ?_;refine RL.eS (.nilCheck rfl) ?_;refine RL.eS (.field0 fo25_3 rfl) ?_;refine RL.stS sh22 rfl rfl rfl hb (fun w6 z6 hb a6 => ?_);have G := G.trans a6;have hb_3 := hb_3.upd a6 n__3.symm;have hb_4 := hb_4.upd a6 n__4.symm
  have hF' := hF'.updD a6 d_hF'_b
  have hb_6 := hb_6.upd a6 n__6.symm
  have hb : Has w6 b ([.slice p.a1 m.map.length p.c1, .slice p.a2 m.tab.length p.c2, .slice p.a3 m.row.length p.c3, .slice a' (heapM m.heap o).1.length c']) _ := hb
  refine RL.nil (RC.back (RC.seq (RC.region rfl ?_)));refine RL.eS (.loadR ([.int .i64 (heapM m.heap o).2.e, .int .i64 (heapM m.heap o).2.a, .int .i64 (heapM m.heap o).2.b]) sh31 rfl hb_6.row rfl) ?_;refine RL.stS sh31 rfl rfl rfl hb_4 (fun w7 z7 hb_4 a7 => ?_);have hb := hb.upd a7 n__4
  have G := agNew G a7 geG_4
  have hb_3 := hb_3.upd a7 n_3__4
  have hF' := hF'.updD a7 d_hF'_b_4
  have hb_6 := hb_6.upd a7 n_4__6.symm
  have hb_4 : Has w7 b_4 ([.int .i64 (heapM m.heap o).2.e, .int .i64 (heapM m.heap o).2.a, .int .i64 (heapM m.heap o).2.b]) _ := hb_4.now (by kernel_rfl)
  refine RL.nil (RC.back ?_);refine RC.done (rs := [.cell 4 31]) (vs := [_]) rfl rfl ⟨⟨_, rfl, .inr ⟨[.int .i64 (heapM m.heap o).2.e, .int .i64 (heapM m.heap o).2.a, .int .i64 (heapM m.heap o).2.b], sh31, hb_4.row, rfl⟩⟩, trivial⟩ ?_
  exact ⟨a', c', M', rfl, hc', hF', hup, hb, G⟩
 ·
  refine RL.alloc ze31 rfl rfl (fun b_6 w_6 e_6 z_6 hb_6 s_6 => ?_)
  have fr_b_6 : w_4.heap.size ≤ b_6 := by rw [e_6]; exact szD
  have n__6 := hb.ne e_6;have n_4__6 := hb_4.ne e_6;have d_hF_b_6 := hF.neNew e_6;have hb := hb.sub s_6;have hF := hF.sub s_6
  have geG_6 := agLe G e_6
  have G := G.trans s_6.agr;have hb_3 := hb_3.sub s_6;have hb_4 := hb_4.sub s_6;refine RD.back s_6.agr ?_;refine RD.oneS 5 rfl ?_;refine RL.call rfl ok40 (c_heap m.heap p.a4 p.c4 _ rfl hs hl200 hc o hok w_6 M hF) rfl rfl ?_;rintro _ w8 ⟨s9, a', c', M', rfl, hc', hF', hup⟩
  have d_hF'_b := upNe hup hn hb.lt
  have d_hF'_b_3 := upNe hup d_hF_b_3 hb_3.lt
  have d_hF'_b_4 := upNe hup d_hF_b_4 hb_4.lt
  have d_hF'_b_6 := upNe hup d_hF_b_6 hb_6.lt
  have hup := hup.le G.size
  have hb := hb.sub s9;have G := G.trans s9.agr;have hb_4 := hb_4.sub s9;have hb_6 := hb_6.sub s9;refine RD.back s9.agr ?_;refine RD.tS 6 rfl (fun w' s' => .move rfl) ?_;refine RD.tS 7 rfl (fun w' s' => .extract rfl rfl) ?_;refine RD.tS 8 rfl (fun w' s' => .extract rfl rfl) ?_;refine RD.tS 10 rfl (fun w' s' => .assign rfl) ?_;refine RD.oneS 11 rfl ?_;refine RL.stS sh31 rfl rfl rfl hb_6 (fun w10 z10 hb_6 a10 => ?_);have hb := hb.upd a10 n__6
  have G := agNew G a10 geG_6
  have hb_4 := hb_4.upd a10 n_4__6
  have hF' := hF'.updD a10 d_hF'_b_6
  have hb_6 : Has w10 b_6 ([.int .i64 (heapM m.heap o).2.e, .int .i64 (heapM m.heap o).2.a, .int .i64 (heapM m.heap o).2.b]) _ := hb_6.now (by kernel_rfl)
  refine RD.backW rfl (a10.mono fun k _ e => e ▸ (.inr fr_b_6)) ?_;refine RD.done (by kernel_rfl) (RC.back ?_);refine RC.seq (RC.region rfl ?_);refine RL.mvS rfl ?_;refine RL.mvS rfl ?_;refine RL.eS (.nilCheck rfl) ?_;refine RL.eS (.field0 fo25_3 rfl) ?_;refine RL.stS sh22 rfl rfl rfl hb (fun w11 z11 hb a11 => ?_);have G := G.trans a11;have hb_4 := hb_4.upd a11 n__4.symm;have hb_6 := hb_6.upd a11 n__6.symm
  have hF' := hF'.updD a11 d_hF'_b
  have hb : Has w11 b ([.slice p.a1 m.map.length p.c1, .slice p.a2 m.tab.length p.c2, .slice p.a3 m.row.length p.c3, .slice a' (heapM m.heap o).1.length c']) _ := hb
  refine RL.nil (RC.back (RC.seq (RC.region rfl ?_)));refine RL.eS (.loadR ([.int .i64 (heapM m.heap o).2.e, .int .i64 (heapM m.heap o).2.a, .int .i64 (heapM m.heap o).2.b]) sh31 rfl hb_6.row rfl) ?_;refine RL.stS sh31 rfl rfl rfl hb_4 (fun w12 z12 hb_4 a12 => ?_);have hb := hb.upd a12 n__4
  have G := agNew G a12 geG_4
  have hF' := hF'.updD a12 d_hF'_b_4
  have hb_4 : Has w12 b_4 ([.int .i64 (heapM m.heap o).2.e, .int .i64 (heapM m.heap o).2.a, .int .i64 (heapM m.heap o).2.b]) _ := hb_4.now (by kernel_rfl)
  refine RL.nil (RC.back ?_);refine RC.done (rs := [.cell 4 31]) (vs := [_]) rfl rfl ⟨⟨_, rfl, .inr ⟨[.int .i64 (heapM m.heap o).2.e, .int .i64 (heapM m.heap o).2.a, .int .i64 (heapM m.heap o).2.b], sh31, hb_4.row, rfl⟩⟩, trivial⟩ ?_
  exact ⟨a', c', M', rfl, hc', hF', hup, hb, G⟩
open Go Go.XL
def doM (m : Mo) (o : OpT) : Mo × ResT :=
  if o.box = 1 then ({ m with map := (pairsM m.map o).1 }, (pairsM m.map o).2)
  else if o.box = 2 then ({ m with tab := (pairsM m.tab o).1 }, (pairsM m.tab o).2)
  else if o.box = 3 then ({ m with row := (rowM m.row o).1 }, (rowM m.row o).2)
  else ({ m with heap := (heapM m.heap o).1 }, (heapM m.heap o).2)
theorem rowM_len {l : List Int} {o : OpT} (h : l.length ≤ 200) : (rowM l o).1.length ≤ 200 := by
  unfold rowM
  repeat' split
  all_goals simp <;> omega
theorem delL_le (l : List It) (key : Int) : (delL l key).length ≤ l.length := List.length_filter_le _ _
theorem pairsM_row (l : List It) (o : OpT) : (pairsM l o).1 = l ∨ (pairsM l o).1 = delL l o.a ∨ ((pairsM l o).1 = putL l o.a o.b ∧ (hasK l o.a = true ∨ l.length < 200 ∧ (o.box = 2 → crowdL l o.a < 9))) := by
  unfold pairsM
  dsimp only
  split
  · exact .inl rfl
  · split
    · split
      · exact .inl rfl
      · rename_i h
        refine .inr (.inr ⟨rfl, ?_⟩)
        cases hh : hasK l o.a with
        | true => exact .inl rfl
        | false =>
          rw [hh] at h
          simp only [true_and, not_or, not_and] at h
          exact .inr ⟨by omega, fun e => by have := h.2 e; omega⟩
    · split
      · split <;> (try split) <;> exact .inl rfl
      · split
        · exact .inl rfl
        · split
          · exact .inl rfl
          · split
            · exact .inr (.inl rfl)
            · exact .inl rfl
theorem putL_size {l : List It} (hs : Srt l) (key v : Int) : (putL l key v).length = if hasK l key then l.length else l.length + 1 := by
  obtain ⟨g0, g1, g2, g3⟩ := part_has (key := key) hs rfl
  cases hh : hasK l key with
  | true =>
    obtain ⟨x, hx, e⟩ := g0.1 hh
    have := lt_of_get hx
    rw [put_has hs hx e, List.length_append, List.length_cons, List.length_take, List.length_drop, if_pos rfl]
    omega
  | false =>
    rw [put_no hs rfl hh, List.length_append, List.length_cons, List.length_take, List.length_drop, if_neg (by simp)]
    omega
theorem pairsM_ok {l : List It} {o : OpT} (hs : Srt l) (hi : ∀ x ∈ l, inK x) (hl : l.length ≤ 200) (hok : okP o) : Srt (pairsM l o).1 ∧ (∀ x ∈ (pairsM l o).1, inK x) ∧ (pairsM l o).1.length ≤ 200 := by
  rcases pairsM_row l o with e | e | ⟨e, h⟩ <;> rw [e]
  · exact ⟨hs, hi, hl⟩
  · exact ⟨hs.sub, fun x hx => hi x (filter_sub hx), Nat.le_trans (delL_le l o.a) hl⟩
  · refine ⟨hs.put, fun x hx => ?_, ?_⟩
    · rcases putL_mem hx with rfl | hx
      · exact ⟨hok.2.1, hok.2.2.1⟩
      · exact hi x hx
    · rw [putL_size hs]
      rcases h with h | h
      · rw [h, if_pos rfl]; exact hl
      · split <;> omega
theorem crowdL_app (l r : List It) (k : Int) : crowdL (l ++ r) k = crowdL l k + crowdL r k := by
  unfold crowdL; rw [List.filter_append, List.length_append]
theorem crowdL_cons (x : It) (l : List It) (k : Int) : crowdL (x :: l) k = (if hashOf x.k = hashOf k then 1 else 0) + crowdL l k := by
  unfold crowdL
  rw [List.filter_cons]
  by_cases h : hashOf x.k = hashOf k
  · rw [if_pos (decide_eq_true h), if_pos h, List.length_cons]; omega
  · rw [if_neg (by rw [decide_eq_false h]; simp), if_neg h]; omega
theorem crowdL_hash {k k' : Int} (h : hashOf k = hashOf k') (l : List It) : crowdL l k = crowdL l k' := by unfold crowdL; rw [h]
theorem crowdL_del (l : List It) (key k : Int) : crowdL (delL l key) k ≤ crowdL l k := by
  unfold crowdL delL
  exact ((List.filter_sublist).filter _).length_le
theorem pairsM_crowd {l : List It} {o : OpT} (hs : Srt l) (hc : ∀ x ∈ l, crowdL l x.k ≤ 9) (hb : o.box = 2) : ∀ x ∈ (pairsM l o).1, crowdL (pairsM l o).1 x.k ≤ 9 := by
  rcases pairsM_row l o with e | e | ⟨e, h⟩ <;> rw [e]
  · exact hc
  · exact fun x hx => Nat.le_trans (crowdL_del l o.a x.k) (hc x (filter_sub hx))
  · obtain ⟨n, hn⟩ : ∃ n, n = (ltL o.a l).length := ⟨_, rfl⟩
    obtain ⟨g0, g1, g2, g3⟩ := part_has (key := o.a) hs hn
    cases hh : hasK l o.a with
    | true =>
      obtain ⟨y, hy, e⟩ := g0.1 hh
      have e1 := put_has hs hy e (v := o.b)
      have e2 := split_get hy
      rw [e1]
      have key : ∀ k, crowdL (l.take n ++ ⟨o.a, o.b⟩ :: l.drop (n + 1)) k = crowdL l k := fun k => by
        conv => rhs; rw [e2]
        rw [crowdL_app, crowdL_app, crowdL_cons, crowdL_cons, e]
      intro x hx
      rw [key]
      rcases List.mem_append.1 hx with hx | hx
      · exact hc x (List.mem_of_mem_take hx)
      · rcases List.mem_cons.1 hx with rfl | hx
        · have := hc y (List.mem_of_getElem? hy); rwa [e] at this
        · exact hc x (List.mem_of_mem_drop hx)
    | false =>
      have e1 := put_no hs hn hh (v := o.b)
      rw [e1]
      have key : ∀ k, crowdL (l.take n ++ ⟨o.a, o.b⟩ :: l.drop n) k = crowdL l k + (if hashOf o.a = hashOf k then 1 else 0) := fun k => by
        conv => rhs; rw [← List.take_append_drop n l]
        have c : crowdL (⟨o.a, o.b⟩ :: l.drop n) k = (if hashOf o.a = hashOf k then 1 else 0) + crowdL (l.drop n) k := crowdL_cons _ _ _
        rw [crowdL_app, crowdL_app, c]; omega
      have h9 : crowdL l o.a < 9 := by
        rcases h with h | h
        · rw [hh] at h; cases h
        · exact h.2 hb
      intro x hx
      rw [key]
      by_cases q : hashOf o.a = hashOf x.k
      · rw [if_pos q, ← crowdL_hash q]; omega
      · rw [if_neg q]
        rcases List.mem_append.1 hx with hx | hx
        · exact hc x (List.mem_of_mem_take hx)
        · rcases List.mem_cons.1 hx with rfl | hx
          · exact absurd rfl q
          · exact hc x (List.mem_of_mem_drop hx)
theorem ins_get {l : List It} {x : It} {n : Nat} (hn : n ≤ l.length) (i : Nat) : (l.take n ++ x :: l.drop n)[i]? = if i < n then l[i]? else if i = n then some x else l[i - 1]? := by
  have hl : (l.take n).length = n := by rw [List.length_take]; omega
  by_cases h : i < n
  · rw [if_pos h, List.getElem?_append_left (by omega), List.getElem?_take_of_lt h]
  · rw [if_neg h, List.getElem?_append_right (by omega), hl]
    by_cases h2 : i = n
    · subst h2; rw [if_pos rfl, Nat.sub_self]; rfl
    · rw [if_neg h2, show i - n = (i - 1 - n) + 1 by omega, List.getElem?_cons_succ, List.getElem?_drop]; congr 1; omega
theorem whN_spec (x : It) : ∀ (l : List It), whN l x ≤ l.length ∧ (∀ k z, k < whN l x → l[k]? = some z → lessP z x) ∧ (∀ z, l[whN l x]? = some z → ¬ lessP z x)
  | [] => ⟨Nat.le_refl _, fun k z _ h => by simp at h, fun z h => by simp at h⟩
  | y :: l => by
    obtain ⟨h1, h2, h3⟩ := whN_spec x l
    by_cases q : lessP y x
    · have e : whN (y :: l) x = whN l x + 1 := by unfold whN; rw [List.takeWhile_cons, decide_eq_true q]; rfl
      rw [e]
      refine ⟨by simpa using h1, fun k z hk hz => ?_, fun z hz => h3 z (by simpa using hz)⟩
      cases k with
      | zero => simp at hz; subst hz; exact q
      | succ k => exact h2 k z (by omega) (by simpa using hz)
    · have e : whN (y :: l) x = 0 := by unfold whN; rw [List.takeWhile_cons, decide_eq_false q]; rfl
      rw [e]
      exact ⟨Nat.zero_le _, fun k z hk => absurd hk (Nat.not_lt_zero _), fun z hz => by simp at hz; subst hz; exact q⟩
theorem SrtH.ins {l : List It} (h : SrtH l) (x : It) : SrtH (l.take (whN l x) ++ x :: l.drop (whN l x)) := by
  obtain ⟨h1, h2, h3⟩ := whN_spec x l
  intro i y z hy hz
  rw [ins_get h1] at hy hz
  by_cases c1 : i + 1 < whN l x
  · rw [if_pos (by omega)] at hy; rw [if_pos c1] at hz; exact h i y z hy hz
  · rw [if_neg c1] at hz
    by_cases c2 : i + 1 = whN l x
    · rw [if_pos c2] at hz
      rw [if_pos (by omega)] at hy
      cases hz
      have := h2 i y (by omega) hy
      unfold lessP at *; omega
    · rw [if_neg c2] at hz
      rw [if_neg (by omega)] at hy
      by_cases c3 : i = whN l x
      · rw [if_pos c3] at hy
        cases hy
        exact h3 z (by rw [← hz]; congr 1; omega)
      · rw [if_neg c3] at hy
        exact h (i - 1) y z hy (by rw [← hz]; congr 1; omega)
theorem heapM_ok {l : List It} {o : OpT} (hs : SrtH l) (hi : ∀ x ∈ l, inK x) (hl : l.length ≤ 200) (hok : okP o) : SrtH (heapM l o).1 ∧ (∀ x ∈ (heapM l o).1, inK x) ∧ (heapM l o).1.length ≤ 200 := by
  unfold heapM
  split
  · exact ⟨hs, hi, hl⟩
  · split
    · split
      · exact ⟨hs, hi, hl⟩
      · obtain ⟨h1, _, _⟩ := whN_spec ⟨o.a, o.b⟩ l
        refine ⟨hs.ins _, fun x hx => ?_, by simp only [List.length_append, List.length_cons, List.length_take, List.length_drop]; omega⟩
        rcases List.mem_append.1 hx with hx | hx
        · exact hi x (List.mem_of_mem_take hx)
        · rcases List.mem_cons.1 hx with rfl | hx
          · exact ⟨hok.2.1, hok.2.2.1⟩
          · exact hi x (List.mem_of_mem_drop hx)
    · split
      · exact ⟨hs, hi, hl⟩
      · split
        · exact ⟨fun i x y hx hy => hs (1 + i) x y (by rw [← List.getElem?_drop]; exact hx) (by rw [Nat.add_assoc, ← List.getElem?_drop]; exact hy), fun x hx => hi x (List.mem_of_mem_drop hx), by simp only [List.length_drop]; omega⟩
        · exact ⟨hs, hi, hl⟩
theorem rightM_do {m : Mo} {o : OpT} (h : rightM m) (hok : okP o) : rightM (doM m o).1 := by
  obtain ⟨h1, h2, h3, h4, h5, h6, h7, h8⟩ := (rightM_iff m).1 h
  rw [rightM_iff]
  unfold doM
  split
  · obtain ⟨a, b, c⟩ := pairsM_ok h7 h3.1 h3.2 hok
    exact ⟨h1, h2, ⟨b, c⟩, h4, h5, h6, a, h8⟩
  · split
    · rename_i hb
      obtain ⟨a, b, c⟩ := pairsM_ok h8 h4.1 h4.2 hok
      exact ⟨h1, pairsM_crowd h8 h2 hb, h3, ⟨b, c⟩, h5, h6, h7, a⟩
    · split
      · exact ⟨h1, h2, h3, h4, h5, rowM_len h6, h7, h8⟩
      · obtain ⟨a, b, c⟩ := heapM_ok (o := o) h1 h5.1 h5.2 hok
        exact ⟨a, h2, h3, h4, ⟨b, c⟩, h6, h7, h8⟩
theorem Up.or {C C1 C2 : Nat → Prop} {w : World} (h : Up C w C1) (k : Up C w C2) : Up C w (fun x => C1 x ∨ C2 x) := fun i hi => hi.elim (h i) (k i)
theorem MoS.of {p : Ph} {m : Mo} (k1 : m.map.length ≤ p.c1) (k2 : m.tab.length ≤ p.c2) (k3 : m.row.length ≤ p.c3) (k4 : m.heap.length ≤ p.c4) (h : rightM m) : MoS p m := by
  have := (rightM_iff m).1 h
  exact ⟨k1, k2, k3, k4, by omega, by omega, by omega, by omega⟩
theorem Ft.all {M : Nat → Prop} {p : Ph} {m : Mo} {w : World} (h1 : Ft M (fun u => Sl u p.a1 2 (m.map.map It.cells)) w) (h2 : Ft M (fun u => Sl u p.a2 2 (m.tab.map It.cells)) w) (h3 : Ft M (fun u => Sl u p.a3 1 (m.row.map fun x => [i6 x])) w) (h4 : Ft M (fun u => Sl u p.a4 2 (m.heap.map It.cells)) w) : Ft M (fun u => MoR u p m) w :=
  ⟨h1.lt, fun u a => ⟨h1.imm u a, h2.imm u a, h3.imm u a, h4.imm u a⟩⟩
theorem Ft.wid {M M' : Nat → Prop} {I : World → Prop} {w : World} (h : Ft M I w) (hl : ∀ k, M' k → k < w.heap.size) (hn : ∀ k, M k → M' k) : Ft M' I w :=
  ⟨hl, fun u a => h.imm u (a.mono fun k _ e hk => e (hn k hk))⟩
def boxF (k : Int) : FuncId := if k = 1 then 34 else if k = 2 then 36 else if k = 3 then 37 else 39
theorem box_cases {o : OpT} (hok : okP o) : o.box = 1 ∨ o.box = 2 ∨ o.box = 3 ∨ o.box = 4 := by have := hok.1; unfold kindP at this; omega
theorem boxF_ok (k : Int) : calleeOK Try.prog (boxF k) = true := by
  unfold boxF
  repeat' split
  all_goals first | exact ok34 | exact ok36 | exact ok37 | exact ok39
theorem boxF_at {o : OpT} (hok : okP o) : (#[Value.func (.func 34) #[] #[], .func (.func 36) #[] #[], .func (.func 37) #[] #[], .func (.func 39) #[] #[]] : Array Value)[(o.box - 1).toNat * 1]? = some (.func (.func (boxF o.box)) #[] #[]) := by
  rcases box_cases hok with e | e | e | e <;> rw [e] <;> rfl
theorem c_box (b : Nat) (p : Ph) (m : Mo) (hs : MoS p m) (hR : rightM m) (o : OpT) (hok : okP o) (w : World) (M : Nat → Prop) (hF : Ft M (fun u => MoR u p m) w) (hb : Has w b (moC p m) 25) (hn : ∀ k, M k → k ≠ b) :
    FC Try.prog (boxF o.box) [.pointer (some ⟨b, 0, none⟩), .agg o.cells.toArray] w (fun u w' => ∃ p' M', u = .agg (doM m o).2.cells.toArray ∧ MoS p' (doM m o).1 ∧ Ft M' (fun u => MoR u p' (doM m o).1) w' ∧ Up M w M' ∧ Has w' b (moC p' (doM m o).1) 25 ∧ Agr (· = b) w w') := by
  have hRd := rightM_do hR hok
  obtain ⟨h1, h2, h3, h4, h5, h6, h7, h8⟩ := (rightM_iff m).1 hR
  rcases box_cases hok with e | e | e | e
  · have hd : doM m o = ({ m with map := (pairsM m.map o).1 }, (pairsM m.map o).2) := by unfold doM; rw [if_pos e]
    rw [hd] at hRd ⊢
    rw [e, show boxF 1 = 34 from rfl]
    refine FC.mono (c_box1 b p m h7 h3.2 hs.k1 o hok w M (hF.imp fun u h => h.h1) hb hn) ?_
    rintro v w' ⟨a', c', M', rfl, hc', hF', hup, hb', ag⟩
    have hF2 := hF.updD ag hn
    have hl : ∀ k, (M k ∨ M' k) → k < w'.heap.size := fun k hk => hk.elim (hF2.lt k) (hF'.lt k)
    refine ⟨{ p with a1 := a', c1 := c' }, fun k => M k ∨ M' k, rfl, MoS.of hc' hs.k2 hs.k3 hs.k4 hRd, Ft.all (p := { p with a1 := a', c1 := c' }) (hF'.wid hl fun _ h => .inr h) ((hF2.imp fun u h => h.h2).wid hl fun _ h => .inl h) ((hF2.imp fun u h => h.h3).wid hl fun _ h => .inl h) ((hF2.imp fun u h => h.h4).wid hl fun _ h => .inl h), (Up.refl _ _).or hup, hb', ag⟩
  · have hd : doM m o = ({ m with tab := (pairsM m.tab o).1 }, (pairsM m.tab o).2) := by unfold doM; rw [if_neg (by omega), if_pos e]
    rw [hd] at hRd ⊢
    rw [e, show boxF 2 = 36 from rfl]
    refine FC.mono (c_box2 b p m h8 h4.2 hs.k2 o hok w M (hF.imp fun u h => h.h2) hb hn) ?_
    rintro v w' ⟨a', c', M', rfl, hc', hF', hup, hb', ag⟩
    have hF2 := hF.updD ag hn
    have hl : ∀ k, (M k ∨ M' k) → k < w'.heap.size := fun k hk => hk.elim (hF2.lt k) (hF'.lt k)
    refine ⟨{ p with a2 := a', c2 := c' }, fun k => M k ∨ M' k, rfl, MoS.of hs.k1 hc' hs.k3 hs.k4 hRd, Ft.all (p := { p with a2 := a', c2 := c' }) ((hF2.imp fun u h => h.h1).wid hl fun _ h => .inl h) (hF'.wid hl fun _ h => .inr h) ((hF2.imp fun u h => h.h3).wid hl fun _ h => .inl h) ((hF2.imp fun u h => h.h4).wid hl fun _ h => .inl h), (Up.refl _ _).or hup, hb', ag⟩
  · have hd : doM m o = ({ m with row := (rowM m.row o).1 }, (rowM m.row o).2) := by unfold doM; rw [if_neg (by omega), if_neg (by omega), if_pos e]
    rw [hd] at hRd ⊢
    rw [e, show boxF 3 = 37 from rfl]
    refine FC.mono (c_box3 b p m trivial h6 hs.k3 o hok w M (hF.imp fun u h => h.h3) hb hn) ?_
    rintro v w' ⟨a', c', M', rfl, hc', hF', hup, hb', ag⟩
    have hF2 := hF.updD ag hn
    have hl : ∀ k, (M k ∨ M' k) → k < w'.heap.size := fun k hk => hk.elim (hF2.lt k) (hF'.lt k)
    refine ⟨{ p with a3 := a', c3 := c' }, fun k => M k ∨ M' k, rfl, MoS.of hs.k1 hs.k2 hc' hs.k4 hRd, Ft.all (p := { p with a3 := a', c3 := c' }) ((hF2.imp fun u h => h.h1).wid hl fun _ h => .inl h) ((hF2.imp fun u h => h.h2).wid hl fun _ h => .inl h) (hF'.wid hl fun _ h => .inr h) ((hF2.imp fun u h => h.h4).wid hl fun _ h => .inl h), (Up.refl _ _).or hup, hb', ag⟩
  · have hd : doM m o = ({ m with heap := (heapM m.heap o).1 }, (heapM m.heap o).2) := by unfold doM; rw [if_neg (by omega), if_neg (by omega), if_neg (by omega)]
    rw [hd] at hRd ⊢
    rw [e, show boxF 4 = 39 from rfl]
    refine FC.mono (c_box4 b p m h1 h5.2 hs.k4 o hok w M (hF.imp fun u h => h.h4) hb hn) ?_
    rintro v w' ⟨a', c', M', rfl, hc', hF', hup, hb', ag⟩
    have hF2 := hF.updD ag hn
    have hl : ∀ k, (M k ∨ M' k) → k < w'.heap.size := fun k hk => hk.elim (hF2.lt k) (hF'.lt k)
    refine ⟨{ p with a4 := a', c4 := c' }, fun k => M k ∨ M' k, rfl, MoS.of hs.k1 hs.k2 hs.k3 hc' hRd, Ft.all (p := { p with a4 := a', c4 := c' }) ((hF2.imp fun u h => h.h1).wid hl fun _ h => .inl h) ((hF2.imp fun u h => h.h2).wid hl fun _ h => .inl h) ((hF2.imp fun u h => h.h3).wid hl fun _ h => .inl h) (hF'.wid hl fun _ h => .inr h), (Up.refl _ _).or hup, hb', ag⟩
def AnsM (M : Nat → Prop) (w w' : World) (q : Mo × ResT) (u : Value) : Prop := Sub w w' ∧ ∃ p' M', u = .tuple #[moV p' q.1, .agg q.2.cells.toArray] ∧ MoS p' q.1 ∧ Ft M' (fun u => MoR u p' q.1) w' ∧ Up M w M'
theorem c_do (p : Ph) (m : Mo) (hs : MoS p m) (hR : rightM m) (o : OpT) (hok : okP o) (w : World) (M : Nat → Prop) (hF : Ft M (fun u => MoR u p m) w) :
  FC Try.prog 11 [moV p m, .agg o.cells.toArray] w (fun u w' => AnsM M w w' (doM m o) u) := by
 have hbx := box_cases hok
 refine FC.intro Try.func11 rfl Try.ntmps11 rfl ?_
 have S := Sub.refl w
 refine RC.seq (RC.region rfl ?_);refine RL.box rfl rfl rfl (fun b_2 w_2 e_2 z_2 hb_2 s_2 => ?_);have ge_2 := S.le e_2;have d_hF_b_2 := hF.neNew e_2;have S := S.trans s_2;have hF := hF.sub s_2
 have hb_2 : Has w_2 b_2 ([.slice p.a1 m.map.length p.c1, .slice p.a2 m.tab.length p.c2, .slice p.a3 m.row.length p.c3, .slice p.a4 m.heap.length p.c4]) _ := hb_2
 refine RL.box rfl rfl rfl (fun b_3 w_3 e_3 z_3 hb_3 s_3 => ?_);have n_2__3 := hb_2.ne e_3;have d_hF_b_3 := hF.neNew e_3;have S := S.trans s_3;have hF := hF.sub s_3;have hb_2 := hb_2.sub s_3
 have hb_3 : Has w_3 b_3 ([.int .i64 o.box, .int .i64 o.kind, .int .i64 o.a, .int .i64 o.b]) _ := hb_3
 refine RL.alloc ze25 rfl rfl (fun b_4 w_4 e_4 z_4 hb_4 s_4 => ?_);have ge_4 := S.le e_4;have n_2__4 := hb_2.ne e_4;have n_3__4 := hb_3.ne e_4;have d_hF_b_4 := hF.neNew e_4;have S := S.trans s_4;have hF := hF.sub s_4;have hb_2 := hb_2.sub s_4;have hb_3 := hb_3.sub s_4;refine RL.alloc ze31 rfl rfl (fun b_5 w_5 e_5 z_5 hb_5 s_5 => ?_);have ge_5 := S.le e_5;have n_2__5 := hb_2.ne e_5;have n_3__5 := hb_3.ne e_5;have n_4__5 := hb_4.ne e_5;have d_hF_b_5 := hF.neNew e_5;have S := S.trans s_5;have hF := hF.sub s_5;have hb_2 := hb_2.sub s_5;have hb_3 := hb_3.sub s_5;have hb_4 := hb_4.sub s_5;refine RL.nil (RC.back (RC.seq ?_));refine RC.drawD (fun k => k = b_2) [6, 8] w_5.heap.size 9 rfl rfl mxo (fun w1 s2 => ?_)
 have hNN : ∀ k, ((k = b_2) ∨ w_5.heap.size ≤ k) → w.heap.size ≤ k := fun k e => e.elim (fun e => e ▸ ge_2) (fun e => Nat.le_trans S.size e)
 have hN0 : ∀ k, w_5.heap.size ≤ k → w.heap.size ≤ k := fun k e => Nat.le_trans S.size e
 have ltD_b_2 := hb_2.lt;have ltD_b_3 := hb_3.lt;have szD := Nat.le_refl w_5.heap.size;have S := S.trans s2;have hF := hF.sub s2;have hb_2 := hb_2.sub s2;have hb_3 := hb_3.sub s2;have hb_4 := hb_4.sub s2;have hb_5 := hb_5.sub s2;have szD := Nat.le_trans szD s2.size;refine RD.tS 1 rfl (fun w' s' => .field0 fo27_0 rfl) ?_;refine RD.tS 2 rfl (fun w' s' => .load1 sh3 rfl ((hb_3.step s' (fun e => e.elim (fun e => n_2__3.symm e) (fun e => Nat.not_le.2 ltD_b_3 e))).cell rfl)) ?_;refine RD.tS 3 rfl (fun w' s' => .as (.bin rfl rfl rfl) (wi64 (y := o.box - 1) (by omega) (by omega))) ?_;refine RD.tS 5 rfl (fun w' s' => .loadR ([.int .i64 o.box, .int .i64 o.kind, .int .i64 o.a, .int .i64 o.b]) sh27 rfl (hb_3.step s' (fun e => e.elim (fun e => n_2__3.symm e) (fun e => Nat.not_le.2 ltD_b_3 e))).row rfl) ?_;refine RD.all [0, 7] (by kernel_rfl) rfl (RDs.cons rfl ?_ (RDs.cons rfl ?_ (RDs.nil)))
 ·
  refine RL.call rfl ok25 (c_boxes w1) rfl rfl ?_;rintro _ w3 ⟨rfl, s4⟩;have S := S.trans s4;have hF := hF.sub s4;have hb_2 := hb_2.sub s4;have hb_3 := hb_3.sub s4;have hb_4 := hb_4.sub s4;have hb_5 := hb_5.sub s4;have szD := Nat.le_trans szD s4.size;refine RD.back s4.agr ?_;refine RD.tS 4 rfl (fun w' s' => .index1 ar61 sh60 rfl rfl (by omega) (boxF_at hok)) ?_;refine RD.all [6, 7] (by kernel_rfl) rfl (RDs.cons rfl ?_ (RDs.cons rfl ?_ (RDs.nil)))
  ·
   refine RL.callv rfl rfl (us := []) (cs := []) (boxF_ok o.box) (c_box b_2 p m hs hR o hok w3 M hF hb_2 d_hF_b_2) rfl rfl ?_;rintro _ w5 ⟨p', M', rfl, hs', hF', hup, hb_2', a13⟩
   have d_hF'_b_2 := upNe hup d_hF_b_2 hb_2.lt
   have d_hF'_b_3 := upNe hup d_hF_b_3 hb_3.lt
   have d_hF'_b_4 := upNe hup d_hF_b_4 hb_4.lt
   have d_hF'_b_5 := upNe hup d_hF_b_5 hb_5.lt
   have hup := hup.le S.size
   have S := S.agrN a13 (fun k e => e ▸ ge_2)
   have hF := hF.step a13 (fun k hk e => d_hF_b_2 k hk e);have hb_3 := hb_3.step a13 (fun e => n_2__3.symm e);have hb_4 := hb_4.step a13 (fun e => n_2__4.symm e);have hb_5 := hb_5.step a13 (fun e => n_2__5.symm e);have szD := Nat.le_trans szD a13.size
   have hb_2 := hb_2'
   refine RD.backW rfl (a13.mono fun k _ e => .inl e) ?_;refine RD.oneS 7 rfl ?_;refine RL.alloc ze31 rfl rfl (fun b_6 w_6 e_6 z_6 hb_6 s_6 => ?_)
   have fr_b_6 : w_5.heap.size ≤ b_6 := by rw [e_6]; exact szD
   have ge_6 := S.le e_6;have n_3__6 := hb_3.ne e_6;have n_4__6 := hb_4.ne e_6;have n_5__6 := hb_5.ne e_6;have n_2__6 := hb_2.ne e_6
   have d_hF'_b_6 := hF'.neNew e_6
   have S := S.trans s_6;have hb_3 := hb_3.sub s_6;have hb_4 := hb_4.sub s_6;have hb_5 := hb_5.sub s_6;have szD := Nat.le_trans szD s_6.size;have hb_2 := hb_2.sub s_6
   have hF' := hF'.sub s_6
   refine RD.back s_6.agr ?_;refine RD.oneS 8 rfl ?_;refine RL.stS sh31 rfl rfl rfl hb_6 (fun w7 z7 hb_6 a7 => ?_);have S := S.upd a7 ge_6;have hb_3 := hb_3.upd a7 n_3__6;have hb_4 := hb_4.upd a7 n_4__6;have hb_5 := hb_5.upd a7 n_5__6;have szD := Nat.le_trans szD a7.size;have hb_2 := hb_2.upd a7 n_2__6
   have hF' := hF'.updD a7 d_hF'_b_6
   have hb_6 : Has w7 b_6 ([.int .i64 (doM m o).2.e, .int .i64 (doM m o).2.a, .int .i64 (doM m o).2.b]) _ := hb_6.now (by kernel_rfl)
   refine RD.backW rfl (a7.mono fun k _ e => e ▸ (.inr fr_b_6)) ?_;refine RD.done (by kernel_rfl) (RC.back ?_);refine RC.seq ?_;refine RC.drawD (fun k => k = b_4 ∨ k = b_5) [2, 3] w7.heap.size 4 rfl rfl mxo (fun w8 s9 => ?_)
   have hNN : ∀ k, ((k = b_4 ∨ k = b_5) ∨ w7.heap.size ≤ k) → w.heap.size ≤ k := fun k e => e.elim (fun e => e.elim (fun e => e ▸ ge_4) (fun e => e ▸ ge_5)) (fun e => Nat.le_trans S.size e)
   have hN0 : ∀ k, w7.heap.size ≤ k → w.heap.size ≤ k := fun k e => Nat.le_trans S.size e
   have ltD_b_2 := hb_2.lt
   have ltD_hF' := fun k hk => (hF'.ge k hk).2
   have ltD_b_6 := hb_6.lt;have szD := Nat.le_refl w7.heap.size;have S := S.trans s9;have hb_3 := hb_3.sub s9;have hb_4 := hb_4.sub s9;have hb_5 := hb_5.sub s9;have hb_2 := hb_2.sub s9
   have hF' := hF'.sub s9
   have hb_6 := hb_6.sub s9;have szD := Nat.le_trans szD s9.size;refine RD.tS 0 rfl (fun w' s' => .loadR ([.slice p'.a1 (doM m o).1.map.length p'.c1, .slice p'.a2 (doM m o).1.tab.length p'.c2, .slice p'.a3 (doM m o).1.row.length p'.c3, .slice p'.a4 (doM m o).1.heap.length p'.c4]) sh25 rfl (hb_2.step s' (fun e => e.elim (fun e => e.elim (fun e => n_2__4 e) (fun e => n_2__5 e)) (fun e => Nat.not_le.2 ltD_b_2 e))).row rfl) ?_;refine RD.tS 1 rfl (fun w' s' => .loadR ([.int .i64 (doM m o).2.e, .int .i64 (doM m o).2.a, .int .i64 (doM m o).2.b]) sh31 rfl (hb_6.step s' (fun e => e.elim (fun e => e.elim (fun e => n_4__6.symm e) (fun e => n_5__6.symm e)) (fun e => Nat.not_le.2 ltD_b_6 e))).row rfl) ?_;refine RD.oneS 2 rfl ?_;refine RL.stS sh25 rfl rfl rfl hb_4 (fun w10 z10 hb_4 a10 => ?_);have S := S.upd a10 ge_4;have hb_3 := hb_3.upd a10 n_3__4;have hb_5 := hb_5.upd a10 n_4__5.symm;have hb_2 := hb_2.upd a10 n_2__4
   have hF' := hF'.updD a10 d_hF'_b_4
   have hb_6 := hb_6.upd a10 n_4__6.symm;have szD := Nat.le_trans szD a10.size
   have hb_4 : Has w10 b_4 ([.slice p'.a1 (doM m o).1.map.length p'.c1, .slice p'.a2 (doM m o).1.tab.length p'.c2, .slice p'.a3 (doM m o).1.row.length p'.c3, .slice p'.a4 (doM m o).1.heap.length p'.c4]) _ := hb_4.now (by kernel_rfl)
   refine RD.backW rfl (a10.mono fun k _ e => e ▸ (.inl (.inl rfl))) ?_;refine RD.oneS 3 rfl ?_;refine RL.stS sh31 rfl rfl rfl hb_5 (fun w11 z11 hb_5 a11 => ?_);have S := S.upd a11 ge_5;have hb_3 := hb_3.upd a11 n_3__5;have hb_4 := hb_4.upd a11 n_4__5;have hb_2 := hb_2.upd a11 n_2__5
   have hF' := hF'.updD a11 d_hF'_b_5
   have hb_6 := hb_6.upd a11 n_5__6.symm;have szD := Nat.le_trans szD a11.size
   have hb_5 : Has w11 b_5 ([.int .i64 (doM m o).2.e, .int .i64 (doM m o).2.a, .int .i64 (doM m o).2.b]) _ := hb_5.now (by kernel_rfl)
   refine RD.backW rfl (a11.mono fun k _ e => e ▸ (.inl (.inr (rfl)))) ?_;refine RD.done (by kernel_rfl) (RC.back ?_);refine RC.done (rs := [.cell 4 25, .cell 5 31]) (vs := [_, _]) rfl rfl ⟨⟨_, rfl, .inr ⟨[.slice p'.a1 (doM m o).1.map.length p'.c1, .slice p'.a2 (doM m o).1.tab.length p'.c2, .slice p'.a3 (doM m o).1.row.length p'.c3, .slice p'.a4 (doM m o).1.heap.length p'.c4], sh25, hb_4.row, rfl⟩⟩, ⟨_, rfl, .inr ⟨[.int .i64 (doM m o).2.e, .int .i64 (doM m o).2.a, .int .i64 (doM m o).2.b], sh31, hb_5.row, rfl⟩⟩, trivial⟩ ?_
   exact ⟨S, p', M', rfl, hs', hF', hup⟩
  ·
   refine RL.alloc ze31 rfl rfl (fun b_6 w_6 e_6 z_6 hb_6 s_6 => ?_)
   have fr_b_6 : w_5.heap.size ≤ b_6 := by rw [e_6]; exact szD
   have ge_6 := S.le e_6;have n_2__6 := hb_2.ne e_6;have n_3__6 := hb_3.ne e_6;have n_4__6 := hb_4.ne e_6;have n_5__6 := hb_5.ne e_6;have d_hF_b_6 := hF.neNew e_6;have S := S.trans s_6;have hF := hF.sub s_6;have hb_2 := hb_2.sub s_6;have hb_3 := hb_3.sub s_6;have hb_4 := hb_4.sub s_6;have hb_5 := hb_5.sub s_6;have szD := Nat.le_trans szD s_6.size;refine RD.back s_6.agr ?_;refine RD.oneS 6 rfl ?_;refine RL.callv rfl rfl (us := []) (cs := []) (boxF_ok o.box) (c_box b_2 p m hs hR o hok w_6 M hF hb_2 d_hF_b_2) rfl rfl ?_;rintro _ w12 ⟨p', M', rfl, hs', hF', hup, hb_2', a13⟩
   have d_hF'_b_2 := upNe hup d_hF_b_2 hb_2.lt
   have d_hF'_b_3 := upNe hup d_hF_b_3 hb_3.lt
   have d_hF'_b_4 := upNe hup d_hF_b_4 hb_4.lt
   have d_hF'_b_5 := upNe hup d_hF_b_5 hb_5.lt
   have d_hF'_b_6 := upNe hup d_hF_b_6 hb_6.lt
   have hup := hup.le S.size
   have S := S.agrN a13 (fun k e => e ▸ ge_2)
   have hF := hF.step a13 (fun k hk e => d_hF_b_2 k hk e);have hb_3 := hb_3.step a13 (fun e => n_2__3.symm e);have hb_4 := hb_4.step a13 (fun e => n_2__4.symm e);have hb_5 := hb_5.step a13 (fun e => n_2__5.symm e);have szD := Nat.le_trans szD a13.size;have hb_6 := hb_6.step a13 (fun e => n_2__6.symm e)
   have hb_2 := hb_2'
   refine RD.backW rfl (a13.mono fun k _ e => .inl e) ?_;refine RD.oneS 8 rfl ?_;refine RL.stS sh31 rfl rfl rfl hb_6 (fun w14 z14 hb_6 a14 => ?_);have S := S.upd a14 ge_6;have hb_3 := hb_3.upd a14 n_3__6;have hb_4 := hb_4.upd a14 n_4__6;have hb_5 := hb_5.upd a14 n_5__6;have szD := Nat.le_trans szD a14.size;have hb_2 := hb_2.upd a14 n_2__6
   have hF' := hF'.updD a14 d_hF'_b_6
   have hb_6 : Has w14 b_6 ([.int .i64 (doM m o).2.e, .int .i64 (doM m o).2.a, .int .i64 (doM m o).2.b]) _ := hb_6.now (by kernel_rfl)
   refine RD.backW rfl (a14.mono fun k _ e => e ▸ (.inr fr_b_6)) ?_;refine RD.done (by kernel_rfl) (RC.back ?_);refine RC.seq ?_;refine RC.drawD (fun k => k = b_4 ∨ k = b_5) [2, 3] w14.heap.size 4 rfl rfl mxo (fun w15 s16 => ?_)
   have hNN : ∀ k, ((k = b_4 ∨ k = b_5) ∨ w14.heap.size ≤ k) → w.heap.size ≤ k := fun k e => e.elim (fun e => e.elim (fun e => e ▸ ge_4) (fun e => e ▸ ge_5)) (fun e => Nat.le_trans S.size e)
   have hN0 : ∀ k, w14.heap.size ≤ k → w.heap.size ≤ k := fun k e => Nat.le_trans S.size e
   have ltD_b_6 := hb_6.lt;have ltD_b_2 := hb_2.lt
   have ltD_hF' := fun k hk => (hF'.ge k hk).2
   have szD := Nat.le_refl w14.heap.size;have S := S.trans s16;have hb_3 := hb_3.sub s16;have hb_4 := hb_4.sub s16;have hb_5 := hb_5.sub s16;have hb_6 := hb_6.sub s16;have hb_2 := hb_2.sub s16
   have hF' := hF'.sub s16
   have szD := Nat.le_trans szD s16.size;refine RD.tS 0 rfl (fun w' s' => .loadR ([.slice p'.a1 (doM m o).1.map.length p'.c1, .slice p'.a2 (doM m o).1.tab.length p'.c2, .slice p'.a3 (doM m o).1.row.length p'.c3, .slice p'.a4 (doM m o).1.heap.length p'.c4]) sh25 rfl (hb_2.step s' (fun e => e.elim (fun e => e.elim (fun e => n_2__4 e) (fun e => n_2__5 e)) (fun e => Nat.not_le.2 ltD_b_2 e))).row rfl) ?_;refine RD.tS 1 rfl (fun w' s' => .loadR ([.int .i64 (doM m o).2.e, .int .i64 (doM m o).2.a, .int .i64 (doM m o).2.b]) sh31 rfl (hb_6.step s' (fun e => e.elim (fun e => e.elim (fun e => n_4__6.symm e) (fun e => n_5__6.symm e)) (fun e => Nat.not_le.2 ltD_b_6 e))).row rfl) ?_;refine RD.oneS 2 rfl ?_;refine RL.stS sh25 rfl rfl rfl hb_4 (fun w17 z17 hb_4 a17 => ?_);have S := S.upd a17 ge_4;have hb_3 := hb_3.upd a17 n_3__4;have hb_5 := hb_5.upd a17 n_4__5.symm;have hb_6 := hb_6.upd a17 n_4__6.symm;have hb_2 := hb_2.upd a17 n_2__4
   have hF' := hF'.updD a17 d_hF'_b_4
   have szD := Nat.le_trans szD a17.size
   have hb_4 : Has w17 b_4 ([.slice p'.a1 (doM m o).1.map.length p'.c1, .slice p'.a2 (doM m o).1.tab.length p'.c2, .slice p'.a3 (doM m o).1.row.length p'.c3, .slice p'.a4 (doM m o).1.heap.length p'.c4]) _ := hb_4.now (by kernel_rfl)
   refine RD.backW rfl (a17.mono fun k _ e => e ▸ (.inl (.inl rfl))) ?_;refine RD.oneS 3 rfl ?_;refine RL.stS sh31 rfl rfl rfl hb_5 (fun w18 z18 hb_5 a18 => ?_);have S := S.upd a18 ge_5;have hb_3 := hb_3.upd a18 n_3__5;have hb_4 := hb_4.upd a18 n_4__5;have hb_6 := hb_6.upd a18 n_5__6.symm;have hb_2 := hb_2.upd a18 n_2__5
   have hF' := hF'.updD a18 d_hF'_b_5
   have szD := Nat.le_trans szD a18.size
   have hb_5 : Has w18 b_5 ([.int .i64 (doM m o).2.e, .int .i64 (doM m o).2.a, .int .i64 (doM m o).2.b]) _ := hb_5.now (by kernel_rfl)
   refine RD.backW rfl (a18.mono fun k _ e => e ▸ (.inl (.inr (rfl)))) ?_;refine RD.done (by kernel_rfl) (RC.back ?_);refine RC.done (rs := [.cell 4 25, .cell 5 31]) (vs := [_, _]) rfl rfl ⟨⟨_, rfl, .inr ⟨[.slice p'.a1 (doM m o).1.map.length p'.c1, .slice p'.a2 (doM m o).1.tab.length p'.c2, .slice p'.a3 (doM m o).1.row.length p'.c3, .slice p'.a4 (doM m o).1.heap.length p'.c4], sh25, hb_4.row, rfl⟩⟩, ⟨_, rfl, .inr ⟨[.int .i64 (doM m o).2.e, .int .i64 (doM m o).2.a, .int .i64 (doM m o).2.b], sh31, hb_5.row, rfl⟩⟩, trivial⟩ ?_
   exact ⟨S, p', M', rfl, hs', hF', hup⟩
 ·
  refine RL.alloc ze31 rfl rfl (fun b_6 w_6 e_6 z_6 hb_6 s_6 => ?_)
  have fr_b_6 : w_5.heap.size ≤ b_6 := by rw [e_6]; exact szD
  have ge_6 := S.le e_6;have n_2__6 := hb_2.ne e_6;have n_4__6 := hb_4.ne e_6;have n_5__6 := hb_5.ne e_6;have d_hF_b_6 := hF.neNew e_6;have S := S.trans s_6;have hF := hF.sub s_6;have hb_2 := hb_2.sub s_6;have hb_3 := hb_3.sub s_6;have hb_4 := hb_4.sub s_6;have hb_5 := hb_5.sub s_6;refine RD.back s_6.agr ?_;refine RD.oneS 0 rfl ?_;refine RL.call rfl ok25 (c_boxes w_6) rfl rfl ?_;rintro _ w19 ⟨rfl, s20⟩;have S := S.trans s20;have hF := hF.sub s20;have hb_2 := hb_2.sub s20;have hb_3 := hb_3.sub s20;have hb_4 := hb_4.sub s20;have hb_5 := hb_5.sub s20;have hb_6 := hb_6.sub s20;refine RD.back s20.agr ?_;refine RD.tS 4 rfl (fun w' s' => .index1 ar61 sh60 rfl rfl (by omega) (boxF_at hok)) ?_;refine RD.oneS 6 rfl ?_;refine RL.callv rfl rfl (us := []) (cs := []) (boxF_ok o.box) (c_box b_2 p m hs hR o hok w19 M hF hb_2 d_hF_b_2) rfl rfl ?_;rintro _ w21 ⟨p', M', rfl, hs', hF', hup, hb_2', a13⟩
  have d_hF'_b_2 := upNe hup d_hF_b_2 hb_2.lt
  have d_hF'_b_3 := upNe hup d_hF_b_3 hb_3.lt
  have d_hF'_b_4 := upNe hup d_hF_b_4 hb_4.lt
  have d_hF'_b_5 := upNe hup d_hF_b_5 hb_5.lt
  have d_hF'_b_6 := upNe hup d_hF_b_6 hb_6.lt
  have hup := hup.le S.size
  have S := S.agrN a13 (fun k e => e ▸ ge_2)
  have hb_4 := hb_4.step a13 (fun e => n_2__4.symm e);have hb_5 := hb_5.step a13 (fun e => n_2__5.symm e);have hb_6 := hb_6.step a13 (fun e => n_2__6.symm e)
  have hb_2 := hb_2'
  refine RD.backW rfl (a13.mono fun k _ e => .inl e) ?_;refine RD.oneS 8 rfl ?_;refine RL.stS sh31 rfl rfl rfl hb_6 (fun w23 z23 hb_6 a23 => ?_);have S := S.upd a23 ge_6;have hb_4 := hb_4.upd a23 n_4__6;have hb_5 := hb_5.upd a23 n_5__6;have hb_2 := hb_2.upd a23 n_2__6
  have hF' := hF'.updD a23 d_hF'_b_6
  have hb_6 : Has w23 b_6 ([.int .i64 (doM m o).2.e, .int .i64 (doM m o).2.a, .int .i64 (doM m o).2.b]) _ := hb_6.now (by kernel_rfl)
  refine RD.backW rfl (a23.mono fun k _ e => e ▸ (.inr fr_b_6)) ?_;refine RD.done (by kernel_rfl) (RC.back ?_);refine RC.seq ?_;refine RC.drawD (fun k => k = b_4 ∨ k = b_5) [2, 3] w23.heap.size 4 rfl rfl mxo (fun w24 s25 => ?_)
  have hNN : ∀ k, ((k = b_4 ∨ k = b_5) ∨ w23.heap.size ≤ k) → w.heap.size ≤ k := fun k e => e.elim (fun e => e.elim (fun e => e ▸ ge_4) (fun e => e ▸ ge_5)) (fun e => Nat.le_trans S.size e)
  have hN0 : ∀ k, w23.heap.size ≤ k → w.heap.size ≤ k := fun k e => Nat.le_trans S.size e
  have ltD_b_6 := hb_6.lt;have ltD_b_2 := hb_2.lt
  have ltD_hF' := fun k hk => (hF'.ge k hk).2
  have S := S.trans s25;have hb_4 := hb_4.sub s25;have hb_5 := hb_5.sub s25;have hb_6 := hb_6.sub s25;have hb_2 := hb_2.sub s25
  have hF' := hF'.sub s25
  refine RD.tS 0 rfl (fun w' s' => .loadR ([.slice p'.a1 (doM m o).1.map.length p'.c1, .slice p'.a2 (doM m o).1.tab.length p'.c2, .slice p'.a3 (doM m o).1.row.length p'.c3, .slice p'.a4 (doM m o).1.heap.length p'.c4]) sh25 rfl (hb_2.step s' (fun e => e.elim (fun e => e.elim (fun e => n_2__4 e) (fun e => n_2__5 e)) (fun e => Nat.not_le.2 ltD_b_2 e))).row rfl) ?_;refine RD.tS 1 rfl (fun w' s' => .loadR ([.int .i64 (doM m o).2.e, .int .i64 (doM m o).2.a, .int .i64 (doM m o).2.b]) sh31 rfl (hb_6.step s' (fun e => e.elim (fun e => e.elim (fun e => n_4__6.symm e) (fun e => n_5__6.symm e)) (fun e => Nat.not_le.2 ltD_b_6 e))).row rfl) ?_;refine RD.oneS 2 rfl ?_;refine RL.stS sh25 rfl rfl rfl hb_4 (fun w26 z26 hb_4 a26 => ?_);have S := S.upd a26 ge_4;have hb_5 := hb_5.upd a26 n_4__5.symm
  have hF' := hF'.updD a26 d_hF'_b_4
  have hb_4 : Has w26 b_4 ([.slice p'.a1 (doM m o).1.map.length p'.c1, .slice p'.a2 (doM m o).1.tab.length p'.c2, .slice p'.a3 (doM m o).1.row.length p'.c3, .slice p'.a4 (doM m o).1.heap.length p'.c4]) _ := hb_4.now (by kernel_rfl)
  refine RD.backW rfl (a26.mono fun k _ e => e ▸ (.inl (.inl rfl))) ?_;refine RD.oneS 3 rfl ?_;refine RL.stS sh31 rfl rfl rfl hb_5 (fun w27 z27 hb_5 a27 => ?_);have S := S.upd a27 ge_5;have hb_4 := hb_4.upd a27 n_4__5
  have hF' := hF'.updD a27 d_hF'_b_5
  have hb_5 : Has w27 b_5 ([.int .i64 (doM m o).2.e, .int .i64 (doM m o).2.a, .int .i64 (doM m o).2.b]) _ := hb_5.now (by kernel_rfl)
  refine RD.backW rfl (a27.mono fun k _ e => e ▸ (.inl (.inr (rfl)))) ?_;refine RD.done (by kernel_rfl) (RC.back ?_);refine RC.done (rs := [.cell 4 25, .cell 5 31]) (vs := [_, _]) rfl rfl ⟨⟨_, rfl, .inr ⟨[.slice p'.a1 (doM m o).1.map.length p'.c1, .slice p'.a2 (doM m o).1.tab.length p'.c2, .slice p'.a3 (doM m o).1.row.length p'.c3, .slice p'.a4 (doM m o).1.heap.length p'.c4], sh25, hb_4.row, rfl⟩⟩, ⟨_, rfl, .inr ⟨[.int .i64 (doM m o).2.e, .int .i64 (doM m o).2.a, .int .i64 (doM m o).2.b], sh31, hb_5.row, rfl⟩⟩, trivial⟩ ?_
  exact ⟨S, p', M', rfl, hs', hF', hup⟩
theorem eqL_it_iff (x y : It) : eqL x.cells y.cells = decide (x = y) := by
  obtain ⟨a, b⟩ := x
  obtain ⟨c, d⟩ := y
  simp [eqL, eq1, It.cells]
  rfl
theorem take_ext {l m : List It} {i : Nat} {x y : It} (hx : l[i]? = some x) (hy : m[i]? = some y) (h : l.take i = m.take i) (e : x = y) : l.take (i + 1) = m.take (i + 1) := by
  rw [List.take_add_one, List.take_add_one, hx, hy, h, e]
theorem c_same (l m : List It) (a b : Option Addr) (c d n k : Nat) (hn : n = l.length) (hk : k = m.length) (w : World) (hl : Sl w a 2 (l.map It.cells)) (hm : Sl w b 2 (m.map It.cells)) (hb : l.length ≤ 1000000) :
  FC Try.prog 12 [.slice a n c, .slice b k d] w (Val (.bool (decide (l = m))) w) := by
 subst hn hk
 refine FC.intro Try.func12 rfl Try.ntmps12 rfl ?_
 have S := Sub.refl w
 refine RC.seq (RC.region rfl ?_);refine RL.asS rfl ?_;refine RL.nil (RC.back (RC.seq (RC.seq (RC.region rfl ?_))));refine RL.mvS rfl ?_;refine RL.eS (.len sl22 rfl) ?_;refine RL.mvS rfl ?_;refine RL.eS (.len sl22 rfl) ?_;refine RL.eS (.bin rfl rfl rfl) ?_;refine RL.nil (RC.back ?_);refine RC.cond_dec rfl (fun h1 => ?_) (fun h1 => ?_)
 ·
  have hne : ¬ l = m := (fun e => by subst e; exact absurd rfl h1)
  refine RC.seq (RC.region rfl ?_);refine RL.asS rfl ?_;refine RL.nil (RC.back ?_);refine RC.d1 4 rfl rfl rfl ?_
  rw [decide_eq_false hne]
  exact ⟨rfl, S⟩
 ·
  have hlen : l.length = m.length := (by have := h1; omega)
  refine RC.skip (RC.back (RC.seq (RC.seq (RC.region rfl ?_))));refine RL.mvS rfl ?_;refine RL.eS (.len sl22 rfl) ?_;refine RL.mvS rfl ?_;refine RL.nil (RC.back (RC.block ?_));refine RC.loop (α := Nat) (fun i => [(0, .slice a l.length c), (1, .slice b m.length d), (12, .int .i64 (l.length : Int)), (13, .int .i64 (i : Int))]) (fun i w2 => (i ≤ l.length ∧ l.take i = m.take i) ∧ Sub w w2) (fun i => l.length - i) 0 (keep_of (by repeat (first | exact trivial | refine And.intro rfl ?_))) (⟨⟨Nat.zero_le _, by simp⟩, S⟩) (fun i w2 hJ => ?_)
  obtain ⟨⟨hi, hp⟩, S⟩ := hJ
  refine RC.seq (RC.region rfl ?_);refine RL.eS (.bin rfl rfl rfl) ?_;refine RL.nil (RC.back (RC.seq ?_));refine RC.cond_dec rfl (fun h3 => ?_) (fun h3 => ?_)
  ·
   obtain ⟨x, hx⟩ := getSome (l := l) (i := i) (by omega)
   obtain ⟨y, hy⟩ := getSome (l := m) (i := i) (by omega)
   refine RC.skip (RC.back (RC.seq (RC.block (RC.seq (RC.region rfl ?_)))));refine RL.mvS rfl ?_;refine RL.asS rfl ?_;refine RL.nil (RC.back (RC.seq ?_));refine RC.draw rfl mxo (by kernel_rfl) ?_;refine RQ.ev (.move rfl) rfl rfl ?_;refine RQ.ev (.move rfl) rfl rfl ?_;refine RQ.ev (.indexS sl22 rfl rfl (by omega) (hl.is (i := 0) (by simp only [List.length_map, List.length_cons, List.length_nil]; omega))) rfl rfl ?_;refine RQ.ev (.loadR (x.cells) sh47 rfl ((hl.sub S).rowAt (enc := It.cells) (i := i) hx) rfl) rfl rfl ?_;refine RQ.ev (.move rfl) rfl rfl ?_;refine RQ.ev (.move rfl) rfl rfl ?_;refine RQ.ev (.indexS sl22 rfl rfl (by omega) (hm.is (i := 0) (by simp only [List.length_map, List.length_cons, List.length_nil]; omega))) rfl rfl ?_;refine RQ.ev (.loadR (y.cells) sh47 rfl ((hm.sub S).rowAt (enc := It.cells) (i := i) hy) rfl) rfl rfl ?_;refine RQ.ev (.neS (xs := x.cells) (ys := y.cells) fk47 eg47 sh47 rfl rfl rfl rfl rfl) rfl rfl ?_;refine RQ.nil (fun w4 s5 => RC.back ?_);have S := S.trans s5;refine RC.cond rfl (fun h6 => ?_) (fun h6 => ?_)
   ·
    have hxy : ¬ x = y := (fun e => by have h2 := h6; rw [eqL_it_iff, decide_eq_true e] at h2; cases h2)
    have hne : ¬ l = m := (fun e => by subst e; rw [hx] at hy; cases hy; exact hxy rfl)
    refine RC.seq (RC.region rfl ?_);refine RL.asS rfl ?_;refine RL.nil (RC.back ?_);refine RC.d1 4 rfl rfl rfl ?_
    rw [decide_eq_false hne]
    exact ⟨rfl, S⟩
   ·
    have hxy : x = y := (by have h2 := h6; rw [eqL_it_iff] at h2; simpa using h2)
    refine RC.skip (RC.back (RC.region rfl ?_));refine RL.eS (.as (.bin rfl rfl rfl) (wi64 (y := ((i + 1 : Nat) : Int)) (by omega) (by omega))) ?_;refine RL.mvS rfl ?_
    exact RL.nil (fun a ka => ⟨i + 1, ⟨⟨by omega, take_ext hx hy hp hxy⟩, S⟩, by omega, ka.keep (keep_of (by repeat (first | exact trivial | refine And.intro rfl ?_)))⟩)
  ·
   obtain rfl : i = l.length := (by omega)
   rw [List.take_length, hlen, List.take_length] at hp
   refine RC.exit rfl (RC.back (RC.seq (RC.region rfl ?_)));refine RL.asS rfl ?_;refine RL.nil (RC.back ?_);refine RC.d1 4 rfl rfl rfl ?_
   rw [decide_eq_true hp]
   exact ⟨rfl, S⟩
theorem ints_ext {l m : List Int} {i : Nat} {x y : Int} (hx : l[i]? = some x) (hy : m[i]? = some y) (h : l.take i = m.take i) (e : x = y) : l.take (i + 1) = m.take (i + 1) := by
  rw [List.take_add_one, List.take_add_one, hx, hy, h, e]
theorem c_same11 (l m : List Int) (a b : Option Addr) (c d n k : Nat) (hn : n = l.length) (hk : k = m.length) (w : World) (hl : Sl w a 1 (l.map fun x => [i6 x])) (hm : Sl w b 1 (m.map fun x => [i6 x])) (hb : l.length ≤ 1000000) :
  FC Try.prog 13 [.slice a n c, .slice b k d] w (Val (.bool (decide (l = m))) w) := by
 subst hn hk
 refine FC.intro Try.func13 rfl Try.ntmps13 rfl ?_
 have S := Sub.refl w
 refine RC.seq (RC.region rfl ?_);refine RL.asS rfl ?_;refine RL.nil (RC.back (RC.seq (RC.seq (RC.region rfl ?_))));refine RL.mvS rfl ?_;refine RL.eS (.len sl23 rfl) ?_;refine RL.mvS rfl ?_;refine RL.eS (.len sl23 rfl) ?_;refine RL.eS (.bin rfl rfl rfl) ?_;refine RL.nil (RC.back ?_);refine RC.cond_dec rfl (fun h1 => ?_) (fun h1 => ?_)
 ·
  have hne : ¬ l = m := (fun e => by subst e; exact absurd rfl h1)
  refine RC.seq (RC.region rfl ?_);refine RL.asS rfl ?_;refine RL.nil (RC.back ?_);refine RC.d1 4 rfl rfl rfl ?_
  rw [decide_eq_false hne]
  exact ⟨rfl, S⟩
 ·
  have hlen : l.length = m.length := (by have := h1; omega)
  refine RC.skip (RC.back (RC.seq (RC.seq (RC.region rfl ?_))));refine RL.mvS rfl ?_;refine RL.eS (.len sl23 rfl) ?_;refine RL.mvS rfl ?_;refine RL.nil (RC.back (RC.block ?_));refine RC.loop (α := Nat) (fun i => [(0, .slice a l.length c), (1, .slice b m.length d), (12, .int .i64 (l.length : Int)), (13, .int .i64 (i : Int))]) (fun i w2 => (i ≤ l.length ∧ l.take i = m.take i) ∧ Sub w w2) (fun i => l.length - i) 0 (keep_of (by repeat (first | exact trivial | refine And.intro rfl ?_))) (⟨⟨Nat.zero_le _, by simp⟩, S⟩) (fun i w2 hJ => ?_)
  obtain ⟨⟨hi, hp⟩, S⟩ := hJ
  refine RC.seq (RC.region rfl ?_);refine RL.eS (.bin rfl rfl rfl) ?_;refine RL.nil (RC.back (RC.seq ?_));refine RC.cond_dec rfl (fun h3 => ?_) (fun h3 => ?_)
  ·
   obtain ⟨x, hx⟩ := getSome (l := l) (i := i) (by omega)
   obtain ⟨y, hy⟩ := getSome (l := m) (i := i) (by omega)
   refine RC.skip (RC.back (RC.seq (RC.block (RC.seq (RC.region rfl ?_)))));refine RL.mvS rfl ?_;refine RL.asS rfl ?_;refine RL.nil (RC.back (RC.seq ?_));refine RC.draw rfl mxo (by kernel_rfl) ?_;refine RQ.ev (.move rfl) rfl rfl ?_;refine RQ.ev (.move rfl) rfl rfl ?_;refine RQ.ev (.indexS sl23 rfl rfl (by omega) (hl.is (i := 0) (by simp only [List.length_map, List.length_cons, List.length_nil]; omega))) rfl rfl ?_;refine RQ.ev (.load1 sh2 rfl ((hl.sub S).one (enc := i6) (i := i) hx)) rfl rfl ?_;refine RQ.ev (.move rfl) rfl rfl ?_;refine RQ.ev (.move rfl) rfl rfl ?_;refine RQ.ev (.indexS sl23 rfl rfl (by omega) (hm.is (i := 0) (by simp only [List.length_map, List.length_cons, List.length_nil]; omega))) rfl rfl ?_;refine RQ.ev (.load1 sh2 rfl ((hm.sub S).one (enc := i6) (i := i) hy)) rfl rfl ?_;refine RQ.ev (.bin rfl rfl rfl) rfl rfl ?_;refine RQ.nil (fun w4 s5 => RC.back ?_);have S := S.trans s5;refine RC.cond_dec rfl (fun h6 => ?_) (fun h6 => ?_)
   ·
    have hxy : ¬ x = y := h6
    have hne : ¬ l = m := (fun e => by subst e; rw [hx] at hy; cases hy; exact hxy rfl)
    refine RC.seq (RC.region rfl ?_);refine RL.asS rfl ?_;refine RL.nil (RC.back ?_);refine RC.d1 4 rfl rfl rfl ?_
    rw [decide_eq_false hne]
    exact ⟨rfl, S⟩
   ·
    have hxy : x = y := Decidable.not_not.1 h6
    refine RC.skip (RC.back (RC.region rfl ?_));refine RL.eS (.as (.bin rfl rfl rfl) (wi64 (y := ((i + 1 : Nat) : Int)) (by omega) (by omega))) ?_;refine RL.mvS rfl ?_
    exact RL.nil (fun a ka => ⟨i + 1, ⟨⟨by omega, ints_ext hx hy hp hxy⟩, S⟩, by omega, ka.keep (keep_of (by repeat (first | exact trivial | refine And.intro rfl ?_)))⟩)
  ·
   obtain rfl : i = l.length := (by omega)
   rw [List.take_length, hlen, List.take_length] at hp
   refine RC.exit rfl (RC.back (RC.seq (RC.region rfl ?_)));refine RL.asS rfl ?_;refine RL.nil (RC.back ?_);refine RC.d1 4 rfl rfl rfl ?_
   rw [decide_eq_true hp]
   exact ⟨rfl, S⟩
def p0 : Ph := ⟨none, 0, none, 0, none, 0, none, 0⟩
def m0 : Mo := ⟨[], [], [], []⟩
def res0 : ResT := ⟨0, 0, 0⟩
theorem m0_S : MoS p0 m0 := ⟨Nat.le_refl _, Nat.le_refl _, Nat.le_refl _, Nat.le_refl _, Nat.zero_le _, Nat.zero_le _, Nat.zero_le _, Nat.zero_le _⟩
theorem m0_F (M : Nat → Prop) {w : World} (h : ∀ k, M k → k < w.heap.size) : Ft M (fun u => MoR u p0 m0) w := ⟨h, fun u _ => ⟨Sl.nil _ _ _, Sl.nil _ _ _, Sl.nil _ _ _, Sl.nil _ _ _⟩⟩
def AnsDo (M : Nat → Prop) (w w' : World) (m : Mo) (o : OpT) (u : Value) : Prop :=
  Sub w w' ∧ ∃ p' M', u = .tuple #[moV p' (if pB (rightM m ∧ okP o) then (doM m o).1 else m0), .agg (if pB (rightM m ∧ okP o) then (doM m o).2 else res0).cells.toArray, .int .i64 (if pB (rightM m ∧ okP o) then 0 else 1)] ∧ MoS p' (if pB (rightM m ∧ okP o) then (doM m o).1 else m0) ∧ Ft M' (fun u => MoR u p' (if pB (rightM m ∧ okP o) then (doM m o).1 else m0)) w' ∧ Up M w M'
theorem ansDo_yes {M : Nat → Prop} {w w' : World} {m : Mo} {o : OpT} {p' : Ph} {M' : Nat → Prop} {u : Value} (S : Sub w w') (h : rightM m ∧ okP o) (hu : u = .tuple #[moV p' (doM m o).1, .agg (doM m o).2.cells.toArray, .int .i64 0]) (hs : MoS p' (doM m o).1) (hF : Ft M' (fun u => MoR u p' (doM m o).1) w') (hup : Up M w M') : AnsDo M w w' m o u := by
  refine ⟨S, p', M', ?_⟩
  rw [pB_yes h]
  exact ⟨hu, hs, hF, hup⟩
theorem ansDo_no {M : Nat → Prop} {w w' : World} {m : Mo} {o : OpT} {u : Value} {I : World → Prop} (S : Sub w w') (hF : Ft M I w) (h : ¬ (rightM m ∧ okP o)) (hu : u = .tuple #[moV p0 m0, .agg res0.cells.toArray, .int .i64 1]) : AnsDo M w w' m o u := by
  refine ⟨S, p0, M, ?_⟩
  rw [pB_no h]
  exact ⟨hu, m0_S, m0_F M (fun k hk => Nat.lt_of_lt_of_le (hF.lt k hk) S.size), Up.refl _ _⟩
theorem c_Do (p : Ph) (m : Mo) (hs : MoS p m) (o : OpT) (w : World) (M : Nat → Prop) (hF : Ft M (fun u => MoR u p m) w) :
  FC Try.prog 5 [moV p m, .agg o.cells.toArray] w (fun u w' => AnsDo M w w' m o u) := by
 have hF0 := hF
 refine FC.intro Try.func5 rfl Try.ntmps5 rfl ?_
 have S := Sub.refl w
 refine RC.seq (RC.region rfl ?_);refine RL.box rfl rfl rfl (fun b_2 w_2 e_2 z_2 hb_2 s_2 => ?_);have ge_2 := S.le e_2;have d_hF_b_2 := hF.neNew e_2;have S := S.trans s_2;have hF := hF.sub s_2
 have hb_2 : Has w_2 b_2 ([.slice p.a1 m.map.length p.c1, .slice p.a2 m.tab.length p.c2, .slice p.a3 m.row.length p.c3, .slice p.a4 m.heap.length p.c4]) _ := hb_2
 refine RL.box rfl rfl rfl (fun b_3 w_3 e_3 z_3 hb_3 s_3 => ?_);have d_hF_b_3 := hF.neNew e_3;have S := S.trans s_3;have hF := hF.sub s_3;have hb_2 := hb_2.sub s_3
 have hb_3 : Has w_3 b_3 ([.int .i64 o.box, .int .i64 o.kind, .int .i64 o.a, .int .i64 o.b]) _ := hb_3
 refine RL.alloc ze25 rfl rfl (fun b_4 w_4 e_4 z_4 hb_4 s_4 => ?_);have ge_4 := S.le e_4;have n_2__4 := hb_2.ne e_4;have n_3__4 := hb_3.ne e_4;have d_hF_b_4 := hF.neNew e_4;have S := S.trans s_4;have hF := hF.sub s_4;have hb_2 := hb_2.sub s_4;have hb_3 := hb_3.sub s_4;refine RL.alloc ze31 rfl rfl (fun b_5 w_5 e_5 z_5 hb_5 s_5 => ?_);have ge_5 := S.le e_5;have n_2__5 := hb_2.ne e_5;have n_3__5 := hb_3.ne e_5;have n_4__5 := hb_4.ne e_5;have d_hF_b_5 := hF.neNew e_5;have S := S.trans s_5;have hF := hF.sub s_5;have hb_2 := hb_2.sub s_5;have hb_3 := hb_3.sub s_5;have hb_4 := hb_4.sub s_5;refine RL.asS rfl ?_;refine RL.nil (RC.back (RC.seq (RC.seq (RC.region rfl ?_))));refine RL.eS (.loadR ([.slice p.a1 m.map.length p.c1, .slice p.a2 m.tab.length p.c2, .slice p.a3 m.row.length p.c3, .slice p.a4 m.heap.length p.c4]) sh25 rfl hb_2.row rfl) ?_;refine RL.call rfl ok9 (c_right p m hs w_5 hF.now) rfl rfl ?_;rintro _ w1 ⟨rfl, s2⟩;have S := S.trans s2;have hF := hF.sub s2;have hb_2 := hb_2.sub s2;have hb_3 := hb_3.sub s2;have hb_4 := hb_4.sub s2;have hb_5 := hb_5.sub s2;refine RL.eS (.not rfl) ?_;refine RL.mvS rfl ?_;refine RL.splitB 11 rfl (fun h3 => ?_) (fun h3 => ?_)
 ·
  have g11 : ¬ rightM m := (fun e => by rw [pB_yes e] at h3; cases h3)
  refine RL.offs 3 rfl ?_;refine RL.eS (.pick_t rfl rfl) ?_;refine RL.nil (RC.back ?_);refine RC.cond_t rfl ?_;refine RC.seq (RC.region rfl ?_);refine RL.eS (.as (v' := .agg #[.slice none 0 0, .slice none 0 0, .slice none 0 0, .slice none 0 0]) (.buildS ze25 pl25 rfl rfl) (by kernel_rfl)) ?_;refine RL.eS (.as (v' := .agg #[.int .i64 0, .int .i64 0, .int .i64 0]) (.buildS ze31 pl31 rfl rfl) (by kernel_rfl)) ?_;refine RL.stS sh25 rfl rfl rfl hb_4 (fun w4 z4 hb_4 a4 => ?_);have S := S.upd a4 ge_4;have hF := hF.updD a4 d_hF_b_4;have hb_2 := hb_2.upd a4 n_2__4;have hb_3 := hb_3.upd a4 n_3__4;have hb_5 := hb_5.upd a4 n_4__5.symm
  have hb_4 : Has w4 b_4 ([.slice none 0 0, .slice none 0 0, .slice none 0 0, .slice none 0 0]) _ := hb_4.now (by kernel_rfl)
  refine RL.stS sh31 rfl rfl rfl hb_5 (fun w5 z5 hb_5 a5 => ?_);have S := S.upd a5 ge_5;have hF := hF.updD a5 d_hF_b_5;have hb_2 := hb_2.upd a5 n_2__5;have hb_3 := hb_3.upd a5 n_3__5;have hb_4 := hb_4.upd a5 n_4__5
  have hb_5 : Has w5 b_5 ([.int .i64 0, .int .i64 0, .int .i64 0]) _ := hb_5.now (by kernel_rfl)
  refine RL.asS rfl ?_;refine RL.nil (RC.back ?_);refine RC.done (rs := [.cell 4 25, .cell 5 31, .tmp 6]) (vs := [_, _, _]) rfl rfl ⟨⟨_, rfl, .inr ⟨[.slice none 0 0, .slice none 0 0, .slice none 0 0, .slice none 0 0], sh25, hb_4.row, rfl⟩⟩, ⟨_, rfl, .inr ⟨[.int .i64 0, .int .i64 0, .int .i64 0], sh31, hb_5.row, rfl⟩⟩, rfl, trivial⟩ ?_
  exact ansDo_no S hF0 (fun e => g11 e.1) rfl
 ·
  have g11 : rightM m := (by have q := h3; rw [Bool.not_eq_false'] at q; exact pB_iff.1 q)
  refine RL.eS (.loadR ([.int .i64 o.box, .int .i64 o.kind, .int .i64 o.a, .int .i64 o.b]) sh27 rfl hb_3.row rfl) ?_;refine RL.call rfl ok10 (c_opRight o w1) rfl rfl ?_;rintro _ w6 ⟨rfl, s7⟩;have S := S.trans s7;have hF := hF.sub s7;have hb_2 := hb_2.sub s7;have hb_3 := hb_3.sub s7;have hb_4 := hb_4.sub s7;have hb_5 := hb_5.sub s7;refine RL.eS (.not rfl) ?_;refine RL.eS (.pick_f rfl rfl) ?_;refine RL.nil (RC.back ?_);refine RC.cond rfl (fun h8 => ?_) (fun h8 => ?_)
  ·
   have g15 : ¬ (rightM m ∧ okP o) := (fun e => by have q := h8; simp [e.2] at q)
   refine RC.seq (RC.region rfl ?_);refine RL.eS (.as (v' := .agg #[.slice none 0 0, .slice none 0 0, .slice none 0 0, .slice none 0 0]) (.buildS ze25 pl25 rfl rfl) (by kernel_rfl)) ?_;refine RL.eS (.as (v' := .agg #[.int .i64 0, .int .i64 0, .int .i64 0]) (.buildS ze31 pl31 rfl rfl) (by kernel_rfl)) ?_;refine RL.stS sh25 rfl rfl rfl hb_4 (fun w9 z9 hb_4 a9 => ?_);have S := S.upd a9 ge_4;have hF := hF.updD a9 d_hF_b_4;have hb_2 := hb_2.upd a9 n_2__4;have hb_3 := hb_3.upd a9 n_3__4;have hb_5 := hb_5.upd a9 n_4__5.symm
   have hb_4 : Has w9 b_4 ([.slice none 0 0, .slice none 0 0, .slice none 0 0, .slice none 0 0]) _ := hb_4.now (by kernel_rfl)
   refine RL.stS sh31 rfl rfl rfl hb_5 (fun w10 z10 hb_5 a10 => ?_);have S := S.upd a10 ge_5;have hF := hF.updD a10 d_hF_b_5;have hb_2 := hb_2.upd a10 n_2__5;have hb_3 := hb_3.upd a10 n_3__5;have hb_4 := hb_4.upd a10 n_4__5
   have hb_5 : Has w10 b_5 ([.int .i64 0, .int .i64 0, .int .i64 0]) _ := hb_5.now (by kernel_rfl)
   refine RL.asS rfl ?_;refine RL.nil (RC.back ?_);refine RC.done (rs := [.cell 4 25, .cell 5 31, .tmp 6]) (vs := [_, _, _]) rfl rfl ⟨⟨_, rfl, .inr ⟨[.slice none 0 0, .slice none 0 0, .slice none 0 0, .slice none 0 0], sh25, hb_4.row, rfl⟩⟩, ⟨_, rfl, .inr ⟨[.int .i64 0, .int .i64 0, .int .i64 0], sh31, hb_5.row, rfl⟩⟩, rfl, trivial⟩ ?_
   exact ansDo_no S hF0 g15 rfl
  ·
   have g15 : okP o := (by have q := h8; simpa using q)
   refine RC.skip (RC.back (RC.seq (RC.region rfl ?_)));refine RL.eS (.loadR ([.slice p.a1 m.map.length p.c1, .slice p.a2 m.tab.length p.c2, .slice p.a3 m.row.length p.c3, .slice p.a4 m.heap.length p.c4]) sh25 rfl hb_2.row rfl) ?_;refine RL.eS (.loadR ([.int .i64 o.box, .int .i64 o.kind, .int .i64 o.a, .int .i64 o.b]) sh27 rfl hb_3.row rfl) ?_;refine RL.call rfl ok11 (c_do p m hs g11 o g15 w6 M hF) rfl rfl ?_;rintro _ w11 ⟨s12, p', M', rfl, hs', hF', hup⟩
   have d_hF'_b_2 := upNe hup d_hF_b_2 hb_2.lt
   have d_hF'_b_3 := upNe hup d_hF_b_3 hb_3.lt
   have d_hF'_b_4 := upNe hup d_hF_b_4 hb_4.lt
   have d_hF'_b_5 := upNe hup d_hF_b_5 hb_5.lt
   have hup := hup.le S.size
   have S := S.trans s12;have hb_2 := hb_2.sub s12;have hb_4 := hb_4.sub s12;have hb_5 := hb_5.sub s12;refine RL.mvS rfl ?_;refine RL.eS (.extract rfl rfl) ?_;refine RL.eS (.extract rfl rfl) ?_;refine RL.alloc ze31 rfl rfl (fun b_7 w_7 e_7 z_7 hb_7 s_7 => ?_);have ge_7 := S.le e_7;have n_2__7 := hb_2.ne e_7;have n_4__7 := hb_4.ne e_7;have n_5__7 := hb_5.ne e_7
   have d_hF'_b_7 := hF'.neNew e_7
   have S := S.trans s_7;have hb_2 := hb_2.sub s_7;have hb_4 := hb_4.sub s_7;have hb_5 := hb_5.sub s_7
   have hF' := hF'.sub s_7
   refine RL.stS sh25 rfl rfl rfl hb_2 (fun w13 z13 hb_2 a13 => ?_);have S := S.upd a13 ge_2;have hb_4 := hb_4.upd a13 n_2__4.symm;have hb_5 := hb_5.upd a13 n_2__5.symm
   have hF' := hF'.updD a13 d_hF'_b_2
   have hb_7 := hb_7.upd a13 n_2__7.symm
   have hb_2 : Has w13 b_2 ([.slice p'.a1 (doM m o).1.map.length p'.c1, .slice p'.a2 (doM m o).1.tab.length p'.c2, .slice p'.a3 (doM m o).1.row.length p'.c3, .slice p'.a4 (doM m o).1.heap.length p'.c4]) _ := hb_2.now (by kernel_rfl)
   refine RL.stS sh31 rfl rfl rfl hb_7 (fun w14 z14 hb_7 a14 => ?_);have S := S.upd a14 ge_7;have hb_2 := hb_2.upd a14 n_2__7;have hb_4 := hb_4.upd a14 n_4__7;have hb_5 := hb_5.upd a14 n_5__7
   have hF' := hF'.updD a14 d_hF'_b_7
   have hb_7 : Has w14 b_7 ([.int .i64 (doM m o).2.e, .int .i64 (doM m o).2.a, .int .i64 (doM m o).2.b]) _ := hb_7.now (by kernel_rfl)
   refine RL.nil (RC.back (RC.seq ?_));refine RC.drawD (fun k => k = b_4 ∨ k = b_5) [2, 3] w14.heap.size 5 rfl rfl mxo (fun w15 s16 => ?_)
   have hNN : ∀ k, ((k = b_4 ∨ k = b_5) ∨ w14.heap.size ≤ k) → w.heap.size ≤ k := fun k e => e.elim (fun e => e.elim (fun e => e ▸ ge_4) (fun e => e ▸ ge_5)) (fun e => Nat.le_trans S.size e)
   have hN0 : ∀ k, w14.heap.size ≤ k → w.heap.size ≤ k := fun k e => Nat.le_trans S.size e
   have ltD_b_2 := hb_2.lt
   have ltD_hF' := fun k hk => (hF'.ge k hk).2
   have ltD_b_7 := hb_7.lt;have S := S.trans s16;have hb_2 := hb_2.sub s16;have hb_4 := hb_4.sub s16;have hb_5 := hb_5.sub s16
   have hF' := hF'.sub s16
   have hb_7 := hb_7.sub s16;refine RD.tS 0 rfl (fun w' s' => .loadR ([.slice p'.a1 (doM m o).1.map.length p'.c1, .slice p'.a2 (doM m o).1.tab.length p'.c2, .slice p'.a3 (doM m o).1.row.length p'.c3, .slice p'.a4 (doM m o).1.heap.length p'.c4]) sh25 rfl (hb_2.step s' (fun e => e.elim (fun e => e.elim (fun e => n_2__4 e) (fun e => n_2__5 e)) (fun e => Nat.not_le.2 ltD_b_2 e))).row rfl) ?_;refine RD.tS 1 rfl (fun w' s' => .loadR ([.int .i64 (doM m o).2.e, .int .i64 (doM m o).2.a, .int .i64 (doM m o).2.b]) sh31 rfl (hb_7.step s' (fun e => e.elim (fun e => e.elim (fun e => n_4__7.symm e) (fun e => n_5__7.symm e)) (fun e => Nat.not_le.2 ltD_b_7 e))).row rfl) ?_;refine RD.oneS 2 rfl ?_;refine RL.stS sh25 rfl rfl rfl hb_4 (fun w17 z17 hb_4 a17 => ?_);have S := S.upd a17 ge_4;have hb_5 := hb_5.upd a17 n_4__5.symm
   have hF' := hF'.updD a17 d_hF'_b_4
   have hb_4 : Has w17 b_4 ([.slice p'.a1 (doM m o).1.map.length p'.c1, .slice p'.a2 (doM m o).1.tab.length p'.c2, .slice p'.a3 (doM m o).1.row.length p'.c3, .slice p'.a4 (doM m o).1.heap.length p'.c4]) _ := hb_4.now (by kernel_rfl)
   refine RD.backW rfl (a17.mono fun k _ e => e ▸ (.inl (.inl rfl))) ?_;refine RD.oneS 3 rfl ?_;refine RL.stS sh31 rfl rfl rfl hb_5 (fun w18 z18 hb_5 a18 => ?_);have S := S.upd a18 ge_5;have hb_4 := hb_4.upd a18 n_4__5
   have hF' := hF'.updD a18 d_hF'_b_5
   have hb_5 : Has w18 b_5 ([.int .i64 (doM m o).2.e, .int .i64 (doM m o).2.a, .int .i64 (doM m o).2.b]) _ := hb_5.now (by kernel_rfl)
   refine RD.backW rfl (a18.mono fun k _ e => e ▸ (.inl (.inr (rfl)))) ?_;refine RD.tS 4 rfl (fun w' s' => .assign rfl) ?_;refine RD.done (by kernel_rfl) (RC.back ?_);refine RC.done (rs := [.cell 4 25, .cell 5 31, .tmp 6]) (vs := [_, _, _]) rfl rfl ⟨⟨_, rfl, .inr ⟨[.slice p'.a1 (doM m o).1.map.length p'.c1, .slice p'.a2 (doM m o).1.tab.length p'.c2, .slice p'.a3 (doM m o).1.row.length p'.c3, .slice p'.a4 (doM m o).1.heap.length p'.c4], sh25, hb_4.row, rfl⟩⟩, ⟨_, rfl, .inr ⟨[.int .i64 (doM m o).2.e, .int .i64 (doM m o).2.a, .int .i64 (doM m o).2.b], sh31, hb_5.row, rfl⟩⟩, rfl, trivial⟩ ?_
   exact ansDo_yes S ⟨g11, g15⟩ rfl hs' hF' hup
theorem c_refMSame (p : Ph) (m : Mo) (hs : MoS p m) (q : Ph) (n : Mo) (ht : MoS q n) (w : World) (hm : MoR w p m) (hn : MoR w q n) :
  FC Try.prog 6 [moV p m, moV q n] w (Val (.bool (decide (m.map = n.map ∧ m.tab = n.tab ∧ m.row = n.row ∧ m.heap = n.heap))) w) := by
 have l1 := hs.l1
 have l2 := hs.l2
 have l3 := hs.l3
 have l4 := hs.l4
 refine FC.intro Try.func6 rfl Try.ntmps6 rfl ?_
 have S := Sub.refl w
 refine RC.seq (RC.region rfl ?_);refine RL.box rfl rfl rfl (fun b_2 w_2 e_2 z_2 hb_2 s_2 => ?_);have S := S.trans s_2
 have hb_2 : Has w_2 b_2 ([.slice p.a1 m.map.length p.c1, .slice p.a2 m.tab.length p.c2, .slice p.a3 m.row.length p.c3, .slice p.a4 m.heap.length p.c4]) _ := hb_2
 refine RL.box rfl rfl rfl (fun b_3 w_3 e_3 z_3 hb_3 s_3 => ?_);have S := S.trans s_3;have hb_2 := hb_2.sub s_3
 have hb_3 : Has w_3 b_3 ([.slice q.a1 n.map.length q.c1, .slice q.a2 n.tab.length q.c2, .slice q.a3 n.row.length q.c3, .slice q.a4 n.heap.length q.c4]) _ := hb_3
 refine RL.asS rfl ?_;refine RL.nil (RC.back (RC.seq (RC.region rfl ?_)));refine RL.eS (.field0 fo25_0 rfl) ?_;refine RL.eS (.load1 sh22 rfl (hb_2.cell rfl)) ?_;refine RL.eS (.field0 fo25_0 rfl) ?_;refine RL.eS (.load1 sh22 rfl (hb_3.cell rfl)) ?_;refine RL.call rfl ok12 (c_same m.map n.map p.a1 q.a1 p.c1 q.c1 _ _ rfl rfl w_3 (hm.sub S).h1 (hn.sub S).h1 (by omega)) rfl rfl ?_;rintro _ w1 ⟨rfl, s2⟩;have S := S.trans s2;have hb_2 := hb_2.sub s2;have hb_3 := hb_3.sub s2;refine RL.mvS rfl ?_;refine RL.split 10 rfl (fun h3 => ?_) (fun h3 => ?_)
 ·
  have g10 : m.map = n.map := h3
  refine RL.eS (.field0 fo25_1 rfl) ?_;refine RL.eS (.load1 sh22 rfl (hb_2.cell rfl)) ?_;refine RL.eS (.field0 fo25_1 rfl) ?_;refine RL.eS (.load1 sh22 rfl (hb_3.cell rfl)) ?_;refine RL.call rfl ok12 (c_same m.tab n.tab p.a2 q.a2 p.c2 q.c2 _ _ rfl rfl w1 (hm.sub S).h2 (hn.sub S).h2 (by omega)) rfl rfl ?_;rintro _ w4 ⟨rfl, s5⟩;have S := S.trans s5;have hb_2 := hb_2.sub s5;have hb_3 := hb_3.sub s5;refine RL.eS (.pick_t rfl rfl) ?_;refine RL.mvS rfl ?_;refine RL.split 17 rfl (fun h6 => ?_) (fun h6 => ?_)
  ·
   have g17 : m.tab = n.tab := h6
   refine RL.eS (.field0 fo25_2 rfl) ?_;refine RL.eS (.load1 sh23 rfl (hb_2.cell rfl)) ?_;refine RL.eS (.field0 fo25_2 rfl) ?_;refine RL.eS (.load1 sh23 rfl (hb_3.cell rfl)) ?_;refine RL.call rfl ok13 (c_same11 m.row n.row p.a3 q.a3 p.c3 q.c3 _ _ rfl rfl w4 (hm.sub S).h3 (hn.sub S).h3 (by omega)) rfl rfl ?_;rintro _ w7 ⟨rfl, s8⟩;have S := S.trans s8;have hb_2 := hb_2.sub s8;have hb_3 := hb_3.sub s8;refine RL.eS (.pick_t rfl rfl) ?_;refine RL.mvS rfl ?_;refine RL.split 24 rfl (fun h9 => ?_) (fun h9 => ?_)
   ·
    have g24 : m.row = n.row := h9
    refine RL.eS (.field0 fo25_3 rfl) ?_;refine RL.eS (.load1 sh22 rfl (hb_2.cell rfl)) ?_;refine RL.eS (.field0 fo25_3 rfl) ?_;refine RL.eS (.load1 sh22 rfl (hb_3.cell rfl)) ?_;refine RL.call rfl ok12 (c_same m.heap n.heap p.a4 q.a4 p.c4 q.c4 _ _ rfl rfl w7 (hm.sub S).h4 (hn.sub S).h4 (by omega)) rfl rfl ?_;rintro _ w10 ⟨rfl, s11⟩;have S := S.trans s11;refine RL.eS (.pick_t rfl rfl) ?_;refine RL.asS rfl ?_;refine RL.nil (RC.back ?_);refine RC.d1 4 rfl rfl rfl ?_
    refine ⟨congrArg Value.bool ?_, S⟩
    first | exact (decide_eq_false (fun e => g10 e.1)).symm | exact (decide_eq_false (fun e => g17 e.2.1)).symm | exact (decide_eq_false (fun e => g24 e.2.2.1)).symm | exact decide_eq_decide.2 ⟨fun h => ⟨g10, g17, g24, h⟩, fun h => h.2.2.2⟩
   ·
    have g24 : ¬ m.row = n.row := h9
    refine RL.offs 5 rfl ?_;refine RL.eS (.pick_f rfl rfl) ?_;refine RL.asS rfl ?_;refine RL.nil (RC.back ?_);refine RC.d1 4 rfl rfl rfl ?_
    refine ⟨congrArg Value.bool ?_, S⟩
    first | exact (decide_eq_false (fun e => g10 e.1)).symm | exact (decide_eq_false (fun e => g17 e.2.1)).symm | exact (decide_eq_false (fun e => g24 e.2.2.1)).symm | exact decide_eq_decide.2 ⟨fun h => ⟨g10, g17, g24, h⟩, fun h => h.2.2.2⟩
  ·
   have g17 : ¬ m.tab = n.tab := h6
   refine RL.offs 5 rfl ?_;refine RL.eS (.pick_f rfl rfl) ?_;refine RL.mvS rfl ?_;refine RL.offs 5 rfl ?_;refine RL.eS (.pick_f rfl rfl) ?_;refine RL.asS rfl ?_;refine RL.nil (RC.back ?_);refine RC.d1 4 rfl rfl rfl ?_
   refine ⟨congrArg Value.bool ?_, S⟩
   first | exact (decide_eq_false (fun e => g10 e.1)).symm | exact (decide_eq_false (fun e => g17 e.2.1)).symm | exact (decide_eq_false (fun e => g24 e.2.2.1)).symm | exact decide_eq_decide.2 ⟨fun h => ⟨g10, g17, g24, h⟩, fun h => h.2.2.2⟩
 ·
  have g10 : ¬ m.map = n.map := h3
  refine RL.offs 5 rfl ?_;refine RL.eS (.pick_f rfl rfl) ?_;refine RL.mvS rfl ?_;refine RL.offs 5 rfl ?_;refine RL.eS (.pick_f rfl rfl) ?_;refine RL.mvS rfl ?_;refine RL.offs 5 rfl ?_;refine RL.eS (.pick_f rfl rfl) ?_;refine RL.asS rfl ?_;refine RL.nil (RC.back ?_);refine RC.d1 4 rfl rfl rfl ?_
  refine ⟨congrArg Value.bool ?_, S⟩
  first | exact (decide_eq_false (fun e => g10 e.1)).symm | exact (decide_eq_false (fun e => g17 e.2.1)).symm | exact (decide_eq_false (fun e => g24 e.2.2.1)).symm | exact decide_eq_decide.2 ⟨fun h => ⟨g10, g17, g24, h⟩, fun h => h.2.2.2⟩
def runM (m : Mo) : List OpT → Mo × List ResT
  | [] => (m, [])
  | o :: os => ((runM (doM m o).1 os).1, (doM m o).2 :: (runM (doM m o).1 os).2)
theorem runM_app (l r : List OpT) : ∀ m : Mo, runM m (l ++ r) = ((runM (runM m l).1 r).1, (runM m l).2 ++ (runM (runM m l).1 r).2) := by
  induction l with
  | nil => intro m; rfl
  | cons o l ih => intro m; simp only [List.cons_append, runM, ih]
theorem runM_step {m : Mo} {ops : List OpT} {i : Nat} {o : OpT} (h : ops[i]? = some o) : runM m (ops.take (i + 1)) = ((doM (runM m (ops.take i)).1 o).1, (runM m (ops.take i)).2 ++ [(doM (runM m (ops.take i)).1 o).2]) := by
  rw [List.take_add_one, h, runM_app]; rfl
theorem runM_len (m : Mo) (ops : List OpT) : (runM m ops).2.length = ops.length := by
  induction ops generalizing m with
  | nil => rfl
  | cons o l ih => simp only [runM, List.length_cons, ih]
def runOk (m : Mo) (ops : List OpT) : Prop := rightM m ∧ ∀ o ∈ ops, okP o
theorem rightM_run {ops : List OpT} : ∀ {m : Mo}, runOk m ops → rightM (runM m ops).1 := by
  induction ops with
  | nil => exact fun h => h.1
  | cons o l ih => exact fun h => ih ⟨rightM_do h.1 (h.2 o (by simp)), fun x hx => h.2 x (by simp [hx])⟩
theorem runOk.take {m : Mo} {ops : List OpT} (h : runOk m ops) (i : Nat) : runOk m (ops.take i) := ⟨h.1, fun x hx => h.2 x (List.mem_of_mem_take hx)⟩
theorem c_run1 (o : OpT) (w : World) : FC Try.prog 27 [.agg o.cells.toArray] w (Val (.bool (!decide (okP o))) w) := by
 refine FC.intro Try.func27 rfl Try.ntmps27 rfl ?_
 have S := Sub.refl w
 refine RC.seq (RC.region rfl ?_);refine RL.box rfl rfl rfl (fun b_1 w_1 e_1 z_1 hb_1 s_1 => ?_);have S := S.trans s_1
 have hb_1 : Has w_1 b_1 ([.int .i64 o.box, .int .i64 o.kind, .int .i64 o.a, .int .i64 o.b]) _ := hb_1
 refine RL.asS rfl ?_;refine RL.nil (RC.back (RC.seq (RC.region rfl ?_)));refine RL.eS (.loadR ([.int .i64 o.box, .int .i64 o.kind, .int .i64 o.a, .int .i64 o.b]) sh27 rfl hb_1.row rfl) ?_;refine RL.call rfl ok10 (c_opRight o w_1) rfl rfl ?_;rintro _ w1 ⟨rfl, s2⟩;have S := S.trans s2;refine RL.eS (.not rfl) ?_;refine RL.asS rfl ?_;refine RL.nil (RC.back ?_);refine RC.d1 2 rfl rfl rfl ?_
 exact ⟨rfl, S⟩
structure RunI (b2 b4 : Nat) (w W : World) (M : Nat → Prop) (cur : Mo × List ResT) (p' : Ph) (M' : Nat → Prop) (a7 : Option Addr) (c7 : Nat) : Prop where
  hb : Has W b2 [.slice p'.a1 cur.1.map.length p'.c1, .slice p'.a2 cur.1.tab.length p'.c2, .slice p'.a3 cur.1.row.length p'.c3, .slice p'.a4 cur.1.heap.length p'.c4] 25
  hb4 : Has W b4 [.slice none 0 0, .slice none 0 0, .slice none 0 0, .slice none 0 0] 25
  hF : Ft M' (fun u => MoR u p' cur.1) W
  hs : MoS p' cur.1
  o7 : Ows w.heap.size W 31 3 (.slice a7 (cur.2.map ResT.cells).length c7) (cur.2.map ResT.cells)
  d1 : ∀ k, M' k → k ≠ b2
  d2 : ∀ k, M' k → k ≠ b4
  d3 : ∀ k, ob (.slice a7 (cur.2.map ResT.cells).length c7) = some k → k ≠ b2
  d4 : ∀ k, ob (.slice a7 (cur.2.map ResT.cells).length c7) = some k → k ≠ b4
  d5 : ∀ k, ob (.slice a7 (cur.2.map ResT.cells).length c7) = some k → M' k → False
  up : Up M w M'
  S : Sub w W
def AnsRun (M : Nat → Prop) (w w' : World) (m : Mo) (ops : List OpT) (u : Value) : Prop :=
  Sub w w' ∧ ((runOk m ops ∧ ∃ p' M' a' c', u = .tuple #[moV p' (runM m ops).1, .slice a' ((runM m ops).2.map ResT.cells).length c', .int .i64 0] ∧ MoS p' (runM m ops).1 ∧ Ft M' (fun u => MoR u p' (runM m ops).1) w' ∧ Up M w M' ∧ Ows w.heap.size w' 31 3 (.slice a' ((runM m ops).2.map ResT.cells).length c') ((runM m ops).2.map ResT.cells) ∧ (∀ k, ob (.slice a' ((runM m ops).2.map ResT.cells).length c') = some k → M' k → False)) ∨ (¬ runOk m ops ∧ u = .tuple #[moV p0 m0, .slice none 0 0, .int .i64 1]))
set_option maxHeartbeats 1000000 in
theorem c_Run (p : Ph) (m : Mo) (hs : MoS p m) (ops : List OpT) (pa : Option Addr) (pc n : Nat) (hn : n = ops.length) (hl60 : ops.length ≤ 4000) (w : World) (M : Nat → Prop) (hF : Ft M (fun u => MoR u p m) w) (ho : Sl w pa 4 (ops.map OpT.cells)) :
  FC Try.prog 14 [moV p m, .slice pa n pc] w (fun u w' => AnsRun M w w' m ops u) := by
 subst hn
 have hF0 := hF
 refine FC.intro Try.func14 rfl Try.ntmps14 rfl ?_
 have S := Sub.refl w
 refine RC.seq (RC.region rfl ?_);refine RL.box rfl rfl rfl (fun b_2 w_2 e_2 z_2 hb_2 s_2 => ?_);have ge_2 := S.le e_2;have d_hF_b_2 := hF.neNew e_2;have S := S.trans s_2;have hF := hF.sub s_2
 have hb_2 : Has w_2 b_2 ([.slice p.a1 m.map.length p.c1, .slice p.a2 m.tab.length p.c2, .slice p.a3 m.row.length p.c3, .slice p.a4 m.heap.length p.c4]) _ := hb_2
 refine RL.alloc ze25 rfl rfl (fun b_4 w_4 e_4 z_4 hb_4 s_4 => ?_);have ge_4 := S.le e_4;have n_2__4 := hb_2.ne e_4;have d_hF_b_4 := hF.neNew e_4;have S := S.trans s_4;have hF := hF.sub s_4;have hb_2 := hb_2.sub s_4;refine RL.asS rfl ?_;refine RL.asS rfl ?_;refine RL.nil (RC.back (RC.seq (RC.seq (RC.region rfl ?_))));refine RL.eS (.loadR ([.slice p.a1 m.map.length p.c1, .slice p.a2 m.tab.length p.c2, .slice p.a3 m.row.length p.c3, .slice p.a4 m.heap.length p.c4]) sh25 rfl hb_2.row rfl) ?_;refine RL.call rfl ok9 (c_right p m hs w_4 hF.now) rfl rfl ?_;rintro _ w1 ⟨rfl, s2⟩;have S := S.trans s2;have hF := hF.sub s2;have hb_2 := hb_2.sub s2;have hb_4 := hb_4.sub s2;refine RL.eS (.not rfl) ?_;refine RL.mvS rfl ?_;refine RL.splitB 15 rfl (fun h3 => ?_) (fun h3 => ?_)
 ·
  have g15 : ¬ rightM m := (fun e => by rw [pB_yes e] at h3; cases h3)
  refine RL.offs 3 rfl ?_;refine RL.eS (.pick_t rfl rfl) ?_;refine RL.mvS rfl ?_;refine RL.offs 2 rfl ?_;refine RL.eS (.pick_t rfl rfl) ?_;refine RL.nil (RC.back ?_);refine RC.cond_t rfl ?_;refine RC.seq (RC.region rfl ?_);refine RL.eS (.as (v' := .agg #[.slice none 0 0, .slice none 0 0, .slice none 0 0, .slice none 0 0]) (.buildS ze25 pl25 rfl rfl) (by kernel_rfl)) ?_;refine RL.stS sh25 rfl rfl rfl hb_4 (fun w4 z4 hb_4 a4 => ?_);have S := S.upd a4 ge_4;have hF := hF.updD a4 d_hF_b_4;have hb_2 := hb_2.upd a4 n_2__4
  have hb_4 : Has w4 b_4 ([.slice none 0 0, .slice none 0 0, .slice none 0 0, .slice none 0 0]) _ := hb_4.now (by kernel_rfl)
  refine RL.asS rfl ?_;refine RL.asS rfl ?_;refine RL.nil (RC.back ?_);refine RC.done (rs := [.cell 4 25, .tmp 5, .tmp 6]) (vs := [_, _, _]) rfl rfl ⟨⟨_, rfl, .inr ⟨[.slice none 0 0, .slice none 0 0, .slice none 0 0, .slice none 0 0], sh25, hb_4.row, rfl⟩⟩, rfl, rfl, trivial⟩ ?_
  exact ⟨S, .inr ⟨fun e => g15 e.1, rfl⟩⟩
 ·
  have g15 : rightM m := (by have q := h3; rw [Bool.not_eq_false'] at q; exact pB_iff.1 q)
  refine RL.mvS rfl ?_;refine RL.eS (.len sl64 rfl) ?_;refine RL.eS (.as (v' := .bool false) (.bin rfl rfl rfl) (congrArg Value.bool (decide_eq_false (by omega)))) ?_;refine RL.eS (.pick_f rfl rfl) ?_;refine RL.mvS rfl ?_;refine RL.mvS rfl ?_;refine RL.call rfl ok26 (c_containsOp 27 ok27 [] (fun o => !decide (okP o)) ops pa pc _ rfl w1 (fun x _ w' _ => c_run1 x w') (ho.sub S) (by omega)) rfl rfl ?_;rintro _ w5 ⟨rfl, s6⟩;have S := S.trans s6;have hF := hF.sub s6;have hb_2 := hb_2.sub s6;have hb_4 := hb_4.sub s6;refine RL.eS (.pick_f rfl rfl) ?_;refine RL.nil (RC.back ?_);refine RC.cond rfl (fun h7 => ?_) (fun h7 => ?_)
  ·
   have g23 : ¬ ∀ o ∈ ops, okP o := (fun e => by have q := h7; rw [List.any_eq_true] at q; obtain ⟨x, hx, hq⟩ := q; simp [e x hx] at hq)
   refine RC.seq (RC.region rfl ?_);refine RL.eS (.as (v' := .agg #[.slice none 0 0, .slice none 0 0, .slice none 0 0, .slice none 0 0]) (.buildS ze25 pl25 rfl rfl) (by kernel_rfl)) ?_;refine RL.stS sh25 rfl rfl rfl hb_4 (fun w8 z8 hb_4 a8 => ?_);have S := S.upd a8 ge_4;have hF := hF.updD a8 d_hF_b_4;have hb_2 := hb_2.upd a8 n_2__4
   have hb_4 : Has w8 b_4 ([.slice none 0 0, .slice none 0 0, .slice none 0 0, .slice none 0 0]) _ := hb_4.now (by kernel_rfl)
   refine RL.asS rfl ?_;refine RL.asS rfl ?_;refine RL.nil (RC.back ?_);refine RC.done (rs := [.cell 4 25, .tmp 5, .tmp 6]) (vs := [_, _, _]) rfl rfl ⟨⟨_, rfl, .inr ⟨[.slice none 0 0, .slice none 0 0, .slice none 0 0, .slice none 0 0], sh25, hb_4.row, rfl⟩⟩, rfl, rfl, trivial⟩ ?_
   exact ⟨S, .inr ⟨fun e => g23 e.2, rfl⟩⟩
  ·
   have g23 : ∀ o ∈ ops, okP o := (fun x hx => by have q := h7; rw [List.any_eq_false] at q; have := q x hx; simpa using this)
   have hok : runOk m ops := ⟨g15, g23⟩
   refine RC.skip (RC.back (RC.seq (RC.region rfl ?_)));refine RL.asS rfl ?_;refine RL.nil (RC.back (RC.seq (RC.seq (RC.region rfl ?_))));refine RL.mvS rfl ?_;refine RL.eS (.len sl64 rfl) ?_;refine RL.mvS rfl ?_;refine RL.nil (RC.back (RC.block ?_));refine RC.loop (α := Nat × (Mo × List ResT) × Ph × (Nat → Prop) × Option Addr × Nat) (fun x => [(2, .pointer (some ⟨b_2, 0, none⟩)), (4, .pointer (some ⟨b_4, 0, none⟩)), (7, .slice x.2.2.2.2.1 (x.2.1.2.map ResT.cells).length x.2.2.2.2.2), (25, .slice pa ops.length pc), (26, .int .i64 (ops.length : Int)), (27, .int .i64 (x.1 : Int))]) (fun x w9 => (x.1 ≤ ops.length ∧ x.2.1 = runM m (ops.take x.1)) ∧ RunI b_2 b_4 w w9 M x.2.1 x.2.2.1 x.2.2.2.1 x.2.2.2.2.1 x.2.2.2.2.2) (fun x => ops.length - x.1) (0, (m, []), p, M, none, 0) (keep_of (by repeat (first | exact trivial | refine And.intro rfl ?_))) (⟨⟨Nat.zero_le _, rfl⟩, ⟨hb_2, hb_4, hF, hs, Ows.nil _ _ _ _, d_hF_b_2, d_hF_b_4, fun k hk => obNil hk, fun k hk => obNil hk, fun k hk => obNil hk, Up.refl _ _, S⟩⟩) (fun x w9 hJ => ?_)
   obtain ⟨i, cur, p', M', a7, c7⟩ := x; obtain ⟨⟨hi, hcur⟩, ⟨hb_2, hb_4, hF, hs', o7, d1, d2, d3, d4, d5, hup, S⟩⟩ := hJ; simp only [] at hi hcur hb_2 hb_4 hF hs' o7 d1 d2 d3 d4 d5 hup; have szB := S.size; have hrl : cur.2.length = i := (by rw [hcur, runM_len, List.length_take]; omega)
   refine RC.seq (RC.region rfl ?_);refine RL.eS (.bin rfl rfl rfl) ?_;refine RL.nil (RC.back (RC.seq ?_));refine RC.cond_dec rfl (fun h10 => ?_) (fun h10 => ?_)
   ·
    obtain ⟨o, hx⟩ := getSome (l := ops) (i := i) (by omega)
    have hxm := List.mem_of_getElem? hx
    have hst := runM_step (m := m) hx
    rw [← hcur] at hst
    have hRc : rightM cur.1 := (hcur ▸ rightM_run (hok.take i))
    refine RC.skip (RC.back (RC.seq (RC.block (RC.seq (RC.region rfl ?_)))));refine RL.eS (.indexS sl64 rfl rfl (by omega) (ho.is (i := 0) (by simp only [List.length_map, List.length_cons, List.length_nil]; omega))) ?_;refine RL.eS (.loadR (o.cells) sh27 rfl ((ho.sub S).rowAt (enc := OpT.cells) (i := i) hx) rfl) ?_;refine RL.alloc ze27 rfl rfl (fun b_9 w_9 e_9 z_9 hb_9 s_9 => ?_);have ge_9 := S.le e_9;have n_2__9 := hb_2.ne e_9;have n_4__9 := hb_4.ne e_9;have d_hF_b_9 := hF.neNew e_9;have d_o7_b_9 := o7.neNew e_9;have S := S.trans s_9;have hb_2 := hb_2.sub s_9;have hb_4 := hb_4.sub s_9;have hF := hF.sub s_9;have o7 := o7.sub s_9;have szB := Nat.le_trans szB s_9.size;refine RL.stS sh27 rfl rfl rfl hb_9 (fun w11 z11 hb_9 a11 => ?_);have S := S.upd a11 ge_9;have hb_2 := hb_2.upd a11 n_2__9;have hb_4 := hb_4.upd a11 n_4__9;have hF := hF.updD a11 d_hF_b_9;have o7 := o7.updD a11 d_o7_b_9;have szB := Nat.le_trans szB a11.size
    have hb_9 : Has w11 b_9 (o.cells) _ := hb_9.now (by kernel_rfl)
    refine RL.nil (RC.back (RC.seq (RC.region rfl ?_)));refine RL.eS (.loadR ([.slice p'.a1 cur.1.map.length p'.c1, .slice p'.a2 cur.1.tab.length p'.c2, .slice p'.a3 cur.1.row.length p'.c3, .slice p'.a4 cur.1.heap.length p'.c4]) sh25 rfl hb_2.row rfl) ?_;refine RL.eS (.loadR (o.cells) sh27 rfl hb_9.row rfl) ?_;refine RL.call rfl ok11 (c_do p' cur.1 hs' hRc o (g23 o hxm) w11 M' hF) rfl rfl ?_;rintro _ w12 ⟨s13, p2, M2, rfl, hs2, hF2, hup2⟩;have d_hF2_b_2 := upNe hup2 d1 hb_2.lt;have d_hF2_b_4 := upNe hup2 d2 hb_4.lt;have d_o7_hF2 := upDD hup2 d5 (fun k hk => (o7.ge k hk).2)
    have hup2 := hup.trans (hup2.le S.size)
    have S := S.trans s13;have hb_2 := hb_2.sub s13;have hb_4 := hb_4.sub s13;have hF := hF.sub s13;have o7 := o7.sub s13;have szB := Nat.le_trans szB s13.size;have hb_9 := hb_9.sub s13;refine RL.mvS rfl ?_;refine RL.eS (.extract rfl rfl) ?_;refine RL.eS (.extract rfl rfl) ?_;refine RL.alloc ze25 rfl rfl (fun b_10 w_10 e_10 z_10 hb_10 s_10 => ?_);have ge_10 := S.le e_10;have n_2__10 := hb_2.ne e_10;have n_4__10 := hb_4.ne e_10;have n_9__10 := hb_9.ne e_10;have d_o7_b_10 := o7.neNew e_10;have d_hF2_b_10 := hF2.neNew e_10;have S := S.trans s_10;have hb_2 := hb_2.sub s_10;have hb_4 := hb_4.sub s_10;have o7 := o7.sub s_10;have szB := Nat.le_trans szB s_10.size;have hb_9 := hb_9.sub s_10;have hF2 := hF2.sub s_10;refine RL.alloc ze31 rfl rfl (fun b_11 w_11 e_11 z_11 hb_11 s_11 => ?_);have ge_11 := S.le e_11;have n_2__11 := hb_2.ne e_11;have n_4__11 := hb_4.ne e_11;have n_9__11 := hb_9.ne e_11;have n_10__11 := hb_10.ne e_11;have d_o7_b_11 := o7.neNew e_11;have d_hF2_b_11 := hF2.neNew e_11;have S := S.trans s_11;have hb_2 := hb_2.sub s_11;have hb_4 := hb_4.sub s_11;have o7 := o7.sub s_11;have szB := Nat.le_trans szB s_11.size;have hb_9 := hb_9.sub s_11;have hF2 := hF2.sub s_11;have hb_10 := hb_10.sub s_11;refine RL.stS sh25 rfl rfl rfl hb_10 (fun w14 z14 hb_10 a14 => ?_);have S := S.upd a14 ge_10;have hb_2 := hb_2.upd a14 n_2__10;have hb_4 := hb_4.upd a14 n_4__10;have o7 := o7.updD a14 d_o7_b_10;have szB := Nat.le_trans szB a14.size;have hb_9 := hb_9.upd a14 n_9__10;have hF2 := hF2.updD a14 d_hF2_b_10;have hb_11 := hb_11.upd a14 n_10__11.symm
    have hb_10 : Has w14 b_10 ([.slice p2.a1 (doM cur.1 o).1.map.length p2.c1, .slice p2.a2 (doM cur.1 o).1.tab.length p2.c2, .slice p2.a3 (doM cur.1 o).1.row.length p2.c3, .slice p2.a4 (doM cur.1 o).1.heap.length p2.c4]) _ := hb_10.now (by kernel_rfl)
    refine RL.stS sh31 rfl rfl rfl hb_11 (fun w15 z15 hb_11 a15 => ?_);have S := S.upd a15 ge_11;have hb_2 := hb_2.upd a15 n_2__11;have hb_4 := hb_4.upd a15 n_4__11;have o7 := o7.updD a15 d_o7_b_11;have szB := Nat.le_trans szB a15.size;have hb_9 := hb_9.upd a15 n_9__11;have hF2 := hF2.updD a15 d_hF2_b_11;have hb_10 := hb_10.upd a15 n_10__11
    have hb_11 : Has w15 b_11 ((doM cur.1 o).2.cells) _ := hb_11.now (by kernel_rfl)
    refine RL.nil (RC.back ?_);refine RC.drawD (fun k => k = b_2 ∨ ob (.slice a7 (cur.2.map ResT.cells).length c7) = some k) [5, 4] w15.heap.size 7 rfl rfl mxo (fun w16 s17 => ?_)
    have hNN : ∀ k, ((k = b_2 ∨ ob (.slice a7 (cur.2.map ResT.cells).length c7) = some k) ∨ w15.heap.size ≤ k) → w.heap.size ≤ k := fun k e => e.elim (fun e => e.elim (fun e => e ▸ ge_2) (fun e => Nat.le_trans (by omega) (o7.ge k e).1)) (fun e => Nat.le_trans S.size e)
    have hN0 : ∀ k, w15.heap.size ≤ k → w.heap.size ≤ k := fun k e => Nat.le_trans S.size e
    have ltD_b_10 := hb_10.lt;have ltD_b_11 := hb_11.lt;have szD := Nat.le_refl w15.heap.size;have S := S.trans s17;have hb_2 := hb_2.sub s17;have hb_4 := hb_4.sub s17;have o7 := o7.sub s17;have szB := Nat.le_trans szB s17.size;have hb_9 := hb_9.sub s17;have hF2 := hF2.sub s17;have hb_10 := hb_10.sub s17;have hb_11 := hb_11.sub s17;have szD := Nat.le_trans szD s17.size;refine RD.tS 0 rfl (fun w' s' => .loadR ([.slice p2.a1 (doM cur.1 o).1.map.length p2.c1, .slice p2.a2 (doM cur.1 o).1.tab.length p2.c2, .slice p2.a3 (doM cur.1 o).1.row.length p2.c3, .slice p2.a4 (doM cur.1 o).1.heap.length p2.c4]) sh25 rfl (hb_10.step s' (fun e => e.elim (fun e => e.elim (fun e => n_2__10.symm e) (fun e => d_o7_b_10 _ e rfl)) (fun e => Nat.not_le.2 ltD_b_10 e))).row rfl) ?_;refine RD.tS 1 rfl (fun w' s' => .move rfl) ?_;refine RD.tS 2 rfl (fun w' s' => .loadR ((doM cur.1 o).2.cells) sh31 rfl (hb_11.step s' (fun e => e.elim (fun e => e.elim (fun e => n_2__11.symm e) (fun e => d_o7_b_11 _ e rfl)) (fun e => Nat.not_le.2 ltD_b_11 e))).row rfl) ?_;refine RD.oneS 3 rfl ?_;refine RL.buildSlice1 sl43 _ ze31 rfl rfl rfl rfl rfl rfl rfl (fun b_40 w_40 e_40 z_40 hb_40 s_40 => ?_)
    have fr_b_40 : w15.heap.size ≤ b_40 := by rw [e_40]; exact szD
    have S := S.trans s_40;have hb_2 := hb_2.sub s_40;have hb_4 := hb_4.sub s_40;have o7 := o7.sub s_40;have szB := Nat.le_trans szB s_40.size;have hb_9 := hb_9.sub s_40;have hF2 := hF2.sub s_40;have hb_10 := hb_10.sub s_40;have hb_11 := hb_11.sub s_40;refine RD.back s_40.agr ?_;refine RD.oneS 4 rfl ?_;have sz_41 := S.size
    have ltb_2_41 := hb_2.lt
    have ltb_4_41 := hb_4.lt
    have ltb_9_41 := hb_9.lt
    have ltb_10_41 := hb_10.lt
    have ltb_11_41 := hb_11.lt
    have ltb_40_41 := hb_40.lt
    refine RL.append2 (base := w.heap.size) (rows := cur.2.map ResT.cells) (news := [_]) sl43 ze31 rfl rfl rfl rfl (.inl o7) (Has.slOne hb_40) rfl (by intro r hr; rw [List.mem_singleton] at hr; subst hr; rfl) rfl (by (try simp only [List.length_map, List.length_nil, List.length_append, List.length_cons]); omega) (by (try simp only [List.length_map, List.length_nil, List.length_append, List.length_cons]); omega) (by omega) rfl rfl (fun v_41 w_41 hc_41 ho_41 ag_41 ob_41 => ?_)
    have o41 := ho_41 (.inl (by simp))
    rw [show _ ++ [_] = ((cur.2 ++ [(doM cur.1 o).2]).map ResT.cells) from by rw [List.map_append]; rfl] at o41
    have d_o41_b_2 := obNe ob_41 d3 hb_2.lt;have d_o41_b_4 := obNe ob_41 d4 hb_4.lt;have dd_o41_hF2 := obDF ob_41 d_o7_hF2 (fun k hk => (hF2.ge k hk).2)
    have S := S.agrN ag_41 (fun k e => Nat.le_trans (by omega) e.2)
    have hb_2 := hb_2.step ag_41 (fun e => d3 _ e.1 rfl);have hb_4 := hb_4.step ag_41 (fun e => d4 _ e.1 rfl);have szB := Nat.le_trans szB ag_41.size;have hF2 := hF2.step ag_41 (fun k hk e => d_o7_hF2 k e.1 hk)
    obtain ⟨a_41, c_41, rfl, k_41⟩ := o41.form
    refine RD.backW rfl (ag_41.mono fun k _ e => .inl (.inr (e.1))) ?_;refine RD.oneS 5 rfl ?_;refine RL.stS sh25 rfl rfl rfl hb_2 (fun w18 z18 hb_2 a18 => ?_);have S := S.upd a18 ge_2;have hb_4 := hb_4.upd a18 n_2__4.symm;have szB := Nat.le_trans szB a18.size;have hF2 := hF2.updD a18 d_hF2_b_2;have o41 := o41.updD a18 d_o41_b_2
    have hb_2 : Has w18 b_2 ([.slice p2.a1 (doM cur.1 o).1.map.length p2.c1, .slice p2.a2 (doM cur.1 o).1.tab.length p2.c2, .slice p2.a3 (doM cur.1 o).1.row.length p2.c3, .slice p2.a4 (doM cur.1 o).1.heap.length p2.c4]) _ := hb_2.now (by kernel_rfl)
    refine RD.backW rfl (a18.mono fun k _ e => e ▸ (.inl (.inl rfl))) ?_;refine RD.tS 6 rfl (fun w' s' => .assign rfl) ?_;refine RD.done (by kernel_rfl) (RC.back ?_);refine RC.region rfl ?_;refine RL.eS (.as (.bin rfl rfl rfl) (wi64 (y := ((i + 1 : Nat) : Int)) (by omega) (by omega))) ?_;refine RL.mvS rfl ?_
    exact RL.nil (fun a ka => ⟨(i + 1, ((doM cur.1 o).1, cur.2 ++ [(doM cur.1 o).2]), p2, M2, a_41, c_41), ⟨⟨by omega, by rw [hst]⟩, ⟨hb_2, hb_4, hF2, hs2, o41, d_hF2_b_2, d_hF2_b_4, d_o41_b_2, d_o41_b_4, dd_o41_hF2, hup2, S⟩⟩, by omega, ka.keep (keep_of (by repeat (first | exact trivial | refine And.intro rfl ?_)))⟩)
   ·
    obtain rfl : i = ops.length := (by omega)
    rw [List.take_length] at hcur
    refine RC.exit rfl (RC.back (RC.seq (RC.region rfl ?_)));refine RL.eS (.loadR ([.slice p'.a1 cur.1.map.length p'.c1, .slice p'.a2 cur.1.tab.length p'.c2, .slice p'.a3 cur.1.row.length p'.c3, .slice p'.a4 cur.1.heap.length p'.c4]) sh25 rfl hb_2.row rfl) ?_;refine RL.mvS rfl ?_;refine RL.stS sh25 rfl rfl rfl hb_4 (fun w19 z19 hb_4 a19 => ?_);have S := S.upd a19 ge_4;have hF := hF.updD a19 d2;have o7 := o7.updD a19 d4;have szB := Nat.le_trans szB a19.size
    have hb_4 : Has w19 b_4 ([.slice p'.a1 cur.1.map.length p'.c1, .slice p'.a2 cur.1.tab.length p'.c2, .slice p'.a3 cur.1.row.length p'.c3, .slice p'.a4 cur.1.heap.length p'.c4]) _ := hb_4.now (by kernel_rfl)
    refine RL.asS rfl ?_;refine RL.asS rfl ?_;refine RL.nil (RC.back ?_);refine RC.done (rs := [.cell 4 25, .tmp 5, .tmp 6]) (vs := [_, _, _]) rfl rfl ⟨⟨_, rfl, .inr ⟨[.slice p'.a1 cur.1.map.length p'.c1, .slice p'.a2 cur.1.tab.length p'.c2, .slice p'.a3 cur.1.row.length p'.c3, .slice p'.a4 cur.1.heap.length p'.c4], sh25, hb_4.row, rfl⟩⟩, rfl, rfl, trivial⟩ ?_
    exact ⟨S, .inl ⟨hok, p', M', a7, c7, by rw [← hcur]; rfl, by rw [← hcur]; exact hs', by rw [← hcur]; exact hF, hup, by rw [← hcur]; exact o7, by rw [← hcur]; exact d5⟩⟩
theorem fit_it (r : List Value) (h : fitsR [some .i64, some .i64] r) : ∃ x : It, r = x.cells ∧ x.ok := by
  obtain ⟨_, _, rfl, h0, h⟩ := fitsR_cons h
  obtain ⟨_, _, rfl, h1, h⟩ := fitsR_cons h
  obtain rfl := fitsR_nil h
  obtain ⟨a, rfl, g⟩ := fitI h0
  obtain ⟨b, rfl, k⟩ := fitI h1
  exact ⟨⟨a, b⟩, rfl, g, k⟩
theorem fit_op (r : List Value) (h : fitsR [some .i64, some .i64, some .i64, some .i64] r) : ∃ x : OpT, r = x.cells ∧ x.ok := by
  obtain ⟨_, _, rfl, h0, h⟩ := fitsR_cons h
  obtain ⟨_, _, rfl, h1, h⟩ := fitsR_cons h
  obtain ⟨_, _, rfl, h2, h⟩ := fitsR_cons h
  obtain ⟨_, _, rfl, h3, h⟩ := fitsR_cons h
  obtain rfl := fitsR_nil h
  obtain ⟨a, rfl, g⟩ := fitI h0
  obtain ⟨b, rfl, k⟩ := fitI h1
  obtain ⟨c, rfl, k2⟩ := fitI h2
  obtain ⟨d, rfl, k3⟩ := fitI h3
  exact ⟨⟨a, b, c, d⟩, rfl, g, k, k2, k3⟩
section
variable {H : Type} {enc : TypeId × Value → H} {W : World} {base : Nat} {sp : Nat → Bool} {held : Bool} {v : Value} {d : DataW H} {ps : List MemPlace} {r : Reach} {b : Nat}
set_option maxRecDepth 100000 in
theorem open_op (hok : Value.okWide Try.prog W r b 27 v) (h : DataW.Trod enc Try.prog W base sp held 27 v d ps) : ∃ x : OpT, v = .agg x.cells.toArray ∧ x.ok := by
  obtain ⟨cs, rfl, hf⟩ := open_flat sh27 fk27 rfl hok h
  obtain ⟨x, rfl, hx⟩ := fit_op cs hf
  exact ⟨x, rfl, hx⟩
set_option maxRecDepth 100000 in
theorem open_mo (hok : Value.okWide Try.prog W r b 25 v) (h : DataW.Trod enc Try.prog W base sp held 25 v d ps) : ∃ (p : Ph) (m : Mo), v = moV p m ∧ (m.map.length ≤ p.c1 ∧ m.tab.length ≤ p.c2 ∧ m.row.length ≤ p.c3 ∧ m.heap.length ≤ p.c4) ∧ MoR W p m := by
  obtain ⟨n, hn⟩ := h
  simp only [Value.okWide, Try.underlying25] at hok
  obtain ⟨cs, rfl, hc, _⟩ := hok
  obtain ⟨xs, n', rfl, _, hlen, hxl, hf⟩ := DataW.trod_struct Try.underlying25 hn
  rw [cellsOf_shape sh25] at hlen
  have hq : (Value.agg cs).cells.toList = cs.toList := rfl
  rw [hq] at hlen hf
  obtain ⟨c0, c1, c2, c3, hcs⟩ : ∃ c0 c1 c2 c3, cs.toList = [c0, c1, c2, c3] := by
    match hq : cs.toList, hlen with
    | [a, b, c, d], _ => exact ⟨a, b, c, d, rfl⟩
  rw [hcs] at hf
  have f0 := hf 0 (fieldAt Try.prog 25 0) (by kernel_rfl)
  have f1 := hf 1 (fieldAt Try.prog 25 1) (by kernel_rfl)
  have f2 := hf 2 (fieldAt Try.prog 25 2) (by kernel_rfl)
  have f3 := hf 3 (fieldAt Try.prog 25 3) (by kernel_rfl)
  obtain ⟨x0, hx0⟩ : ∃ x, xs[0]? = some x := ⟨_, List.getElem?_eq_getElem (by rw [hxl]; decide +kernel)⟩
  obtain ⟨x1, hx1⟩ : ∃ x, xs[1]? = some x := ⟨_, List.getElem?_eq_getElem (by rw [hxl]; decide +kernel)⟩
  obtain ⟨x2, hx2⟩ : ∃ x, xs[2]? = some x := ⟨_, List.getElem?_eq_getElem (by rw [hxl]; decide +kernel)⟩
  obtain ⟨x3, hx3⟩ : ∃ x, xs[3]? = some x := ⟨_, List.getElem?_eq_getElem (by rw [hxl]; decide +kernel)⟩
  rw [hx0, show (fieldAt Try.prog 25 0).offset = 0 by kernel_rfl, show (fieldAt Try.prog 25 0).type = 22 by kernel_rfl, cellsOf_shape sh22] at f0
  rw [hx1, show (fieldAt Try.prog 25 1).offset = 1 by kernel_rfl, show (fieldAt Try.prog 25 1).type = 22 by kernel_rfl, cellsOf_shape sh22] at f1
  rw [hx2, show (fieldAt Try.prog 25 2).offset = 2 by kernel_rfl, show (fieldAt Try.prog 25 2).type = 23 by kernel_rfl, cellsOf_shape sh23] at f2
  rw [hx3, show (fieldAt Try.prog 25 3).offset = 3 by kernel_rfl, show (fieldAt Try.prog 25 3).type = 22 by kernel_rfl, cellsOf_shape sh22] at f3
  obtain ⟨a1, r1, k1, e1, g1, _, s1, t1⟩ := trod_sl sl22 fk47 rfl f0
  obtain ⟨a2, r2, k2, e2, g2, _, s2, t2⟩ := trod_sl sl22 fk47 rfl f1
  obtain ⟨a3, r3, k3, e3, g3, _, s3, t3⟩ := trod_sl sl23 (ks := [some .i64]) rfl rfl f2
  obtain ⟨a4, r4, k4, e4, g4, _, s4, t4⟩ := trod_sl sl22 fk47 rfl f3
  obtain ⟨l1, rfl, _⟩ := rows_of (enc := It.cells) (ok := It.ok) r1 (fun r hr => fit_it r (t1 r hr))
  obtain ⟨l2, rfl, _⟩ := rows_of (enc := It.cells) (ok := It.ok) r2 (fun r hr => fit_it r (t2 r hr))
  obtain ⟨l3, rfl, _⟩ := rows_of (enc := fun x => [i6 x]) (ok := I64) r3 (fun r hr => fit_int r (t3 r hr))
  obtain ⟨l4, rfl, _⟩ := rows_of (enc := It.cells) (ok := It.ok) r4 (fun r hr => fit_it r (t4 r hr))
  simp only [List.length_map] at e1 e2 e3 e4 g1 g2 g3 g4
  simp only [List.drop, List.take, List.cons.injEq, and_true] at e1 e2 e3 e4
  subst e1 e2 e3 e4
  refine ⟨⟨a1, k1, a2, k2, a3, k3, a4, k4⟩, ⟨l1, l2, l3, l4⟩, ?_, ⟨g1, g2, g3, g4⟩, ⟨s1, s2, s3, s4⟩⟩
  show Value.agg cs = Value.agg _
  congr 1
  rw [← Array.toArray_toList (xs := cs), hcs]
  rfl
end
def fewM (m : Mo) : Mo := ⟨m.map.take 205, m.tab.take 205, m.row.take 205, m.heap.take 205⟩
theorem fewM_R {w : World} {p : Ph} {m : Mo} (h : MoR w p m) : MoR w p (fewM m) :=
  ⟨by rw [fewM, List.map_take]; exact h.h1.take _, by rw [fewM, List.map_take]; exact h.h2.take _, by rw [fewM, List.map_take]; exact h.h3.take _, by rw [fewM, List.map_take]; exact h.h4.take _⟩
theorem fewM_S {p : Ph} {m : Mo} (h : m.map.length ≤ p.c1 ∧ m.tab.length ≤ p.c2 ∧ m.row.length ≤ p.c3 ∧ m.heap.length ≤ p.c4) : MoS p (fewM m) := by
  constructor <;> simp only [fewM, List.length_take] <;> omega
theorem fewM_l (m : Mo) : (fewM m).map.length ≤ 205 ∧ (fewM m).tab.length ≤ 205 ∧ (fewM m).row.length ≤ 205 ∧ (fewM m).heap.length ≤ 205 := by
  simp only [fewM, List.length_take]; omega
theorem c_few14 (p : Ph) (m : Mo) (h : m.map.length ≤ p.c1 ∧ m.tab.length ≤ p.c2 ∧ m.row.length ≤ p.c3 ∧ m.heap.length ≤ p.c4) (w : World) :
  FC Try.prog 4 [moV p m] w (Val (moV p (fewM m)) w) := by
 refine FC.intro Try.func4 rfl Try.ntmps4 rfl ?_
 have S := Sub.refl w
 refine RC.seq (RC.region rfl ?_);refine RL.box rfl rfl rfl (fun b_1 w_1 e_1 z_1 hb_1 s_1 => ?_);have ge_1 := S.le e_1;have S := S.trans s_1
 have hb_1 : Has w_1 b_1 ([.slice p.a1 m.map.length p.c1, .slice p.a2 m.tab.length p.c2, .slice p.a3 m.row.length p.c3, .slice p.a4 m.heap.length p.c4]) _ := hb_1
 refine RL.alloc ze25 rfl rfl (fun b_2 w_2 e_2 z_2 hb_2 s_2 => ?_);have ge_2 := S.le e_2;have n_1__2 := hb_1.ne e_2;have S := S.trans s_2;have hb_1 := hb_1.sub s_2;refine RL.nil (RC.back (RC.seq ?_));refine RC.drawD (fun k => k = b_1) [29, 31, 33, 35] w_2.heap.size 36 rfl rfl mxo (fun w1 s2 => ?_)
 have hNN : ∀ k, ((k = b_1) ∨ w_2.heap.size ≤ k) → w.heap.size ≤ k := fun k e => e.elim (fun e => e ▸ ge_1) (fun e => Nat.le_trans S.size e)
 have hN0 : ∀ k, w_2.heap.size ≤ k → w.heap.size ≤ k := fun k e => Nat.le_trans S.size e
 have ltD_b_1 := hb_1.lt;have S := S.trans s2;have hb_1 := hb_1.sub s2;have hb_2 := hb_2.sub s2;refine RD.tS 0 rfl (fun w' s' => .field0 fo25_0 rfl) ?_;refine RD.takeL 1 rfl (by kernel_rfl) (by kernel_rfl) (by kernel_rfl) (by kernel_rfl) (fun w' s' => .load1 sh22 rfl ((hb_1.step s' (fun e => Nat.not_le.2 ltD_b_1 e)).cell rfl)) rfl rfl ?_;refine RD.tS 2 rfl (fun w' s' => .field0 fo25_0 rfl) ?_;refine RD.takeL 3 rfl (by kernel_rfl) (by kernel_rfl) (by kernel_rfl) (by kernel_rfl) (fun w' s' => .load1 sh22 rfl ((hb_1.step s' (fun e => Nat.not_le.2 ltD_b_1 e)).cell rfl)) rfl rfl ?_;refine RD.tS 4 rfl (fun w' s' => .len sl22 rfl) ?_;refine RD.tS 5 rfl (fun w' s' => .min2 rfl rfl) ?_;refine RD.tS 6 rfl (fun w' s' => .as (v' := .slice p.a1 (m.map.take 205).length p.c1) (.sliceHi sl22 rfl rfl (by split <;> omega)) (by rw [← few_len]; rfl)) ?_;refine RD.tS 7 rfl (fun w' s' => .field0 fo25_1 rfl) ?_;refine RD.takeL 8 rfl (by kernel_rfl) (by kernel_rfl) (by kernel_rfl) (by kernel_rfl) (fun w' s' => .load1 sh22 rfl ((hb_1.step s' (fun e => Nat.not_le.2 ltD_b_1 e)).cell rfl)) rfl rfl ?_;refine RD.tS 9 rfl (fun w' s' => .field0 fo25_1 rfl) ?_;refine RD.takeL 10 rfl (by kernel_rfl) (by kernel_rfl) (by kernel_rfl) (by kernel_rfl) (fun w' s' => .load1 sh22 rfl ((hb_1.step s' (fun e => Nat.not_le.2 ltD_b_1 e)).cell rfl)) rfl rfl ?_;refine RD.tS 11 rfl (fun w' s' => .len sl22 rfl) ?_;refine RD.tS 12 rfl (fun w' s' => .min2 rfl rfl) ?_;refine RD.tS 13 rfl (fun w' s' => .as (v' := .slice p.a2 (m.tab.take 205).length p.c2) (.sliceHi sl22 rfl rfl (by split <;> omega)) (by rw [← few_len]; rfl)) ?_;refine RD.tS 14 rfl (fun w' s' => .field0 fo25_2 rfl) ?_;refine RD.takeL 15 rfl (by kernel_rfl) (by kernel_rfl) (by kernel_rfl) (by kernel_rfl) (fun w' s' => .load1 sh23 rfl ((hb_1.step s' (fun e => Nat.not_le.2 ltD_b_1 e)).cell rfl)) rfl rfl ?_;refine RD.tS 16 rfl (fun w' s' => .field0 fo25_2 rfl) ?_;refine RD.takeL 17 rfl (by kernel_rfl) (by kernel_rfl) (by kernel_rfl) (by kernel_rfl) (fun w' s' => .load1 sh23 rfl ((hb_1.step s' (fun e => Nat.not_le.2 ltD_b_1 e)).cell rfl)) rfl rfl ?_;refine RD.tS 18 rfl (fun w' s' => .len sl23 rfl) ?_;refine RD.tS 19 rfl (fun w' s' => .min2 rfl rfl) ?_;refine RD.tS 20 rfl (fun w' s' => .as (v' := .slice p.a3 (m.row.take 205).length p.c3) (.sliceHi sl23 rfl rfl (by split <;> omega)) (by rw [← few_len]; rfl)) ?_;refine RD.tS 21 rfl (fun w' s' => .field0 fo25_3 rfl) ?_;refine RD.takeL 22 rfl (by kernel_rfl) (by kernel_rfl) (by kernel_rfl) (by kernel_rfl) (fun w' s' => .load1 sh22 rfl ((hb_1.step s' (fun e => Nat.not_le.2 ltD_b_1 e)).cell rfl)) rfl rfl ?_;refine RD.tS 23 rfl (fun w' s' => .field0 fo25_3 rfl) ?_;refine RD.takeL 24 rfl (by kernel_rfl) (by kernel_rfl) (by kernel_rfl) (by kernel_rfl) (fun w' s' => .load1 sh22 rfl ((hb_1.step s' (fun e => Nat.not_le.2 ltD_b_1 e)).cell rfl)) rfl rfl ?_;refine RD.tS 25 rfl (fun w' s' => .len sl22 rfl) ?_;refine RD.tS 26 rfl (fun w' s' => .min2 rfl rfl) ?_;refine RD.tS 27 rfl (fun w' s' => .as (v' := .slice p.a4 (m.heap.take 205).length p.c4) (.sliceHi sl22 rfl rfl (by split <;> omega)) (by rw [← few_len]; rfl)) ?_;refine RD.tS 28 rfl (fun w' s' => .field0 fo25_0 rfl) ?_;refine RD.oneS 29 rfl ?_;refine RL.stS sh22 rfl rfl rfl hb_1 (fun w3 z3 hb_1 a3 => ?_);have S := S.upd a3 ge_1;have hb_2 := hb_2.upd a3 n_1__2.symm;refine RD.backW rfl (a3.mono fun k _ e => e ▸ (.inl (rfl))) ?_;refine RD.tS 30 rfl (fun w' s' => .field0 fo25_1 rfl) ?_;refine RD.oneS 31 rfl ?_;refine RL.stS sh22 rfl rfl rfl hb_1 (fun w4 z4 hb_1 a4 => ?_);have S := S.upd a4 ge_1;have hb_2 := hb_2.upd a4 n_1__2.symm;refine RD.backW rfl (a4.mono fun k _ e => e ▸ (.inl (rfl))) ?_;refine RD.tS 32 rfl (fun w' s' => .field0 fo25_2 rfl) ?_;refine RD.oneS 33 rfl ?_;refine RL.stS sh23 rfl rfl rfl hb_1 (fun w5 z5 hb_1 a5 => ?_);have S := S.upd a5 ge_1;have hb_2 := hb_2.upd a5 n_1__2.symm;refine RD.backW rfl (a5.mono fun k _ e => e ▸ (.inl (rfl))) ?_;refine RD.tS 34 rfl (fun w' s' => .field0 fo25_3 rfl) ?_;refine RD.oneS 35 rfl ?_
 refine RL.stS sh22 rfl rfl rfl hb_1 (fun w6 z6 hb_1 a6 => ?_);have S := S.upd a6 ge_1;have hb_2 := hb_2.upd a6 n_1__2.symm;refine RD.backW rfl (a6.mono fun k _ e => e ▸ (.inl (rfl))) ?_;refine RD.done (by kernel_rfl) (RC.back ?_);refine RC.seq (RC.region rfl ?_);refine RL.eS (.loadR ([.slice p.a1 (m.map.take 205).length p.c1, .slice p.a2 (m.tab.take 205).length p.c2, .slice p.a3 (m.row.take 205).length p.c3, .slice p.a4 (m.heap.take 205).length p.c4]) sh25 rfl hb_1.row rfl) ?_;refine RL.stS sh25 rfl rfl rfl hb_2 (fun w7 z7 hb_2 a7 => ?_);have S := S.upd a7 ge_2
 have hb_2 : Has w7 b_2 ([.slice p.a1 (m.map.take 205).length p.c1, .slice p.a2 (m.tab.take 205).length p.c2, .slice p.a3 (m.row.take 205).length p.c3, .slice p.a4 (m.heap.take 205).length p.c4]) _ := hb_2.now (by kernel_rfl)
 refine RL.nil (RC.back ?_);refine RC.done (rs := [.cell 2 25]) (vs := [_]) rfl rfl ⟨⟨_, rfl, .inr ⟨[.slice p.a1 (m.map.take 205).length p.c1, .slice p.a2 (m.tab.take 205).length p.c2, .slice p.a3 (m.row.take 205).length p.c3, .slice p.a4 (m.heap.take 205).length p.c4], sh25, hb_2.row, rfl⟩⟩, trivial⟩ ?_
 exact ⟨rfl, S⟩
def alOps : List OpT := [⟨1, 2, 5, 7⟩, ⟨1, 2, 5, 8⟩]
theorem m0_right : rightM m0 := by
  rw [rightM_iff]
  refine ⟨fun i x y h => by simp [m0] at h, fun x h => by simp [m0] at h, ⟨fun x h => by simp [m0] at h, by decide⟩, ⟨fun x h => by simp [m0] at h, by decide⟩, ⟨fun x h => by simp [m0] at h, by decide⟩, by decide, List.Pairwise.nil, List.Pairwise.nil⟩
theorem c_alive14 (w : World) : FC Try.prog 7 [] w (Val (.bool true) w) := by
 have hok : runOk m0 alOps := ⟨m0_right, by decide⟩
 have h0 := m0_F (fun _ => False) (w := w) (fun k h => h.elim)
 refine FC.intro Try.func7 rfl Try.ntmps7 rfl ?_
 have S := Sub.refl w
 refine RC.seq (RC.region rfl ?_);refine RL.asS rfl ?_;refine RL.nil (RC.back (RC.seq (RC.region rfl ?_)));refine RL.eS (.as (v' := moV p0 m0) (.buildS ze25 pl25 rfl rfl) (by rfl)) ?_;refine RL.eS (.as (v' := .agg #[.int .i64 1, .int .i64 2, .int .i64 5, .int .i64 7]) (.buildS ze27 pl27 rfl rfl) (by rfl)) ?_;refine RL.eS (.as (v' := .agg #[.int .i64 1, .int .i64 2, .int .i64 5, .int .i64 8]) (.buildS ze27 pl27 rfl rfl) (by rfl)) ?_;refine RL.buildSliceN (vs := [_, _]) sl64 _ ze27 rfl ⟨rfl, rfl, trivial⟩ rfl rfl rfl rfl rfl rfl (fun b_8 w_8 e_8 z_8 hb_8 s_8 => ?_);have S := S.trans s_8;have h0 := h0.sub s_8;refine RL.call rfl ok14 (c_Run p0 m0 m0_S alOps (some ⟨b_8, 0, none⟩) 2 2 rfl (by decide) w_8 _ h0 (Has.sl0 (rows := alOps.map OpT.cells) hb_8 (by intro r hr; obtain ⟨x, _, rfl⟩ := List.mem_map.1 hr; rfl))) rfl rfl ?_;rintro _ w1 ⟨s2, hr9⟩
 obtain ⟨_, p', M', a', c', rfl, hs', hF', hup, ho9, _⟩ := hr9.resolve_right (fun e => e.1 hok)
 have S := S.trans s2
 have hsl := ho9.sl.1
 obtain ⟨W9, hW9⟩ : ∃ W, W = w1 := ⟨_, rfl⟩
 have S9 : Sub W9 w1 := hW9 ▸ Sub.refl _
 rw [← hW9] at hsl
 refine RL.mvS rfl ?_;refine RL.eS (.extract rfl rfl) ?_;refine RL.eS (.extract rfl rfl) ?_;refine RL.eS (.extract rfl rfl) ?_;refine RL.alloc ze25 rfl rfl (fun b_1 w_1 e_1 z_1 hb_1 s_1 => ?_);have ge_1 := S.le e_1;have S := S.trans s_1
 have geS9_1 := S9.le e_1
 have S9 := S9.trans s_1;refine RL.stS sh25 rfl rfl rfl hb_1 (fun w3 z3 hb_1 a3 => ?_);have S := S.upd a3 ge_1;have S9 := S9.upd a3 geS9_1;refine RL.asS rfl ?_;refine RL.asS rfl ?_;refine RL.nil (RC.back (RC.seq (RC.region rfl ?_)));refine RL.mvS rfl ?_;refine RL.eS (.as (v' := .bool true) (.bin rfl rfl rfl) (congrArg Value.bool (decide_eq_true (rfl)))) ?_;refine RL.mvS rfl ?_;refine RL.mvS rfl ?_;refine RL.eS (.len sl43 rfl) ?_;refine RL.eS (.as (v' := .bool true) (.bin rfl rfl rfl) (congrArg Value.bool (decide_eq_true (rfl)))) ?_;refine RL.eS (.pick_t rfl rfl) ?_;refine RL.mvS rfl ?_;refine RL.mvS rfl ?_;refine RL.eS (.indexS sl43 rfl rfl (by rw [List.length_map, runM_len]; decide) (hsl.is (i := 1) (by rw [List.length_map, runM_len]; decide))) ?_;refine RL.eS (.loadR ((⟨0, 1, 7⟩ : ResT).cells) sh31 rfl ((hsl.sub S9).rowAt (enc := ResT.cells) (i := 1) (x := ⟨0, 1, 7⟩) rfl) rfl) ?_;refine RL.eS (.as (v' := .agg (⟨0, 1, 7⟩ : ResT).cells.toArray) (.buildS ze31 pl31 rfl rfl) (by rfl)) ?_;refine RL.eS (.as (v' := .bool true) (.eqS (xs := (⟨0, 1, 7⟩ : ResT).cells) (ys := (⟨0, 1, 7⟩ : ResT).cells) fk31 eg31 sh31 rfl rfl rfl rfl rfl) (congrArg Value.bool (by rfl))) ?_;refine RL.eS (.pick_t rfl rfl) ?_;refine RL.asS rfl ?_;refine RL.nil (RC.back ?_);refine RC.d1 0 rfl rfl rfl ?_
 exact ⟨rfl, S⟩
theorem _root_.Go.XL.FC.yes {P : Program} {f : FuncId} {args : List Value} {w : World} {q : Prop} [Decidable q] (h : FC P f args w (Val (.bool (decide q)) w)) (hq : q) : FC P f args w (Val (.bool true) w) := by rwa [decide_eq_true hq] at h
theorem AnsDo.out {M : Nat → Prop} {w w' : World} {m : Mo} {o : OpT} {u : Value} (h : AnsDo M w w' m o u) : Sub w w' ∧ ∃ p' r1 r2 e M', u = .tuple #[moV p' r1, .agg (r2 : ResT).cells.toArray, .int .i64 e] ∧ MoS p' r1 ∧ Ft M' (fun u => MoR u p' r1) w' ∧ Up M w M' ∧ ((rightM m ∧ okP o) → r1 = (doM m o).1 ∧ r2 = (doM m o).2 ∧ e = 0) ∧ (¬ (rightM m ∧ okP o) → r1 = m0 ∧ r2 = res0 ∧ e = 1) := by
  obtain ⟨s, p', M', h1, h2, h3, h4⟩ := h
  refine ⟨s, p', _, _, _, M', h1, h2, h3, h4, fun g => ?_, fun g => ?_⟩
  · rw [pB_yes g]; exact ⟨rfl, rfl, rfl⟩
  · rw [pB_no g]; exact ⟨rfl, rfl, rfl⟩
theorem eqL_res (r s : ResT) (h : r = s) : eqL r.cells s.cells = true := by subst h; simp [ResT.cells, eqL, eq1]
theorem sameM_of {m n : Mo} (h : m = n) : m.map = n.map ∧ m.tab = n.tab ∧ m.row = n.row ∧ m.heap = n.heap := by subst h; exact ⟨rfl, rfl, rfl, rfl⟩
theorem _root_.Go.XL.FC.asV {P : Program} {f : FuncId} {args : List Value} {w : World} {v v' : Value} (h : FC P f args w (Val v w)) (hq : v = v') : FC P f args w (Val v' w) := by rwa [hq] at h
end Go.Proofs.Ytfkanamdlndkfaa
set_option linter.unusedVariables false
set_option linter.unusedSimpArgs false
namespace Go.XL
open Go
def updV (vals : Nat → Value) (i : Nat) (v : Value) : Nat → Value := fun k => if k = i then v else vals k
theorem updV_same (vals : Nat → Value) (i : Nat) (v : Value) : updV vals i v i = v := if_pos rfl
theorem updV_ne {vals : Nat → Value} {i k : Nat} {v : Value} (h : k ≠ i) : updV vals i v k = vals k := if_neg h
def dstOf (l : List Oper) (i : Nat) : Option Nat := (l[i]?).bind (·.dst)
def depF (l : List Oper) (vals : Nat → Value) : List Nat → List (Nat × Value)
  | [] => []
  | k :: ks => match dstOf l k with
    | some d => (d, vals k) :: depF l vals ks
    | none => depF l vals ks
theorem Knows.depF {n : Cx} {F : List (Nat × Value)} {a : Act} {l : List Oper} {vals : Nat → Value} (h : Knows n F a) : ∀ (ks : List Nat), (∀ k ∈ ks, ∀ d, dstOf l k = some d → a.tmps[d]? = some (vals k)) → Knows n (XL.depF l vals ks ++ F) a
  | [], _ => h
  | k :: ks, hk => by
    have ih := Knows.depF h ks (fun k' hk' => hk k' (List.mem_cons_of_mem _ hk'))
    unfold XL.depF
    cases hd : dstOf l k with
    | none => exact ih
    | some d =>
      refine ⟨ih.size, ih.defers, fun t v ht => ?_⟩
      rw [List.cons_append, look_cons] at ht
      by_cases e : d = t
      · rw [if_pos e] at ht
        have := hk k (by simp) d hd
        rw [← e, this, ht]
      · rw [if_neg e] at ht; exact ih.slot t v ht
def OpRun (P : Program) (n : Cx) (o : Oper) (F : List (Nat × Value)) (w : World) (K : Value → World → Prop) : Prop :=
  ∀ a, Knows n F a → ∀ Q : Exit → Act → World → Prop, ∀ K' : Act → World → Prop, (∀ v w', K v w' → K' (a.put o.dst v) w') → o.wp P a w K' Q
theorem OpRun.mono {P : Program} {n : Cx} {o : Oper} {F : List (Nat × Value)} {w : World} {K K' : Value → World → Prop} (h : OpRun P n o F w K) (hk : ∀ v w', K v w' → K' v w') : OpRun P n o F w K' :=
  fun a k Q K2 h2 => h a k Q K2 fun v w' q => h2 v w' (hk v w' q)
theorem OpRun.of_RL {P : Program} {n : Cx} {o : Oper} {ops : Array Oper} {F : List (Nat × Value)} {w : World} {K : Value → World → Prop} (hR : n.round = none) (hg : o.guard = none) (hd : inB o.dst n = true)
    (h : RL P n ops [o] F w ⟨fun a w' => a.defers = n.marks ∧ ∃ v, (∀ d, o.dst = some d → a.tmps[d]? = some v) ∧ K v w', [], fun _ _ => False⟩) : OpRun P n o F w K := by
  intro a k Q K' hk
  have h := h a k
  rw [lwp_none hR] at h
  simp only [wpList] at h
  have hw : Region.wanted o (yielded ops a.tmps) = true := by unfold Region.wanted; rw [hg]
  rw [hw, if_pos rfl] at h
  have put : ∀ (u : Value) w', ((a.put o.dst u).defers = n.marks ∧ ∃ v, (∀ d, o.dst = some d → (a.put o.dst u).tmps[d]? = some v) ∧ K v w') → K' (a.put o.dst u) w' := by
    rintro u w' ⟨_, v, h1, h2⟩
    cases hdd : o.dst with
    | none =>
      have e : a.put none u = a.put none v := rfl
      rw [e, ← hdd]; exact hk v w' h2
    | some d =>
      rw [hdd] at hd h1
      have hlt : d < n.size := by simpa [inB, Nat.blt_eq] using hd
      have h3 := h1 d rfl
      simp only [Act.put, Array.getElem?_setIfInBounds] at h3
      rw [if_pos trivial, if_pos (by rw [k.size]; exact hlt)] at h3
      rw [Option.some.inj h3, ← hdd]
      exact hk v w' h2
  rcases h with h | ⟨_, h⟩
  · unfold Oper.wp at *
    generalize (execOp a.eval o).run P w = r at *
    cases r with
    | ok x w' =>
      cases x <;> simp only [Oper.upon] at h ⊢
      case value u => exact put u w' h
      case skip => exact put _ w' h
      case defer d =>
        have h1 := h.1
        simp only [Act.put] at h1
        have : (d :: a.defers) = n.marks := by
          cases hdd : o.dst <;> simpa [hdd, Act.put] using h1
        rw [← k.defers] at this
        exact absurd (congrArg List.length this) (by simp)
      case enter f args =>
        refine Calls.mono h fun e w'' he => ?_
        cases e with
        | returned u => exact put u w'' he
        | panicked c => exact he.elim
        | outgrown => exact he.elim fun _ he => he.elim fun _ he => (he : False).elim
      case row row args => exact Rows.mono h fun u w'' he => put u w'' he
    | halt x w' =>
      cases x <;> simp only [Oper.upon] at h ⊢
      case panic u => exact h.elim
  · exact h.elim fun _ he => he.elim fun _ he => (he : False).elim

def onceA : List (Array Bool) → List (Array Bool)
  | [] => []
  | x :: l => if (onceA l).contains x then onceA l else x :: onceA l
theorem mem_onceA {x : Array Bool} : ∀ {l : List (Array Bool)}, x ∈ l → x ∈ onceA l
  | y :: l, h => by
    unfold onceA
    rcases List.mem_cons.1 h with rfl | h
    · split
      · rename_i hc; exact List.contains_iff_mem.1 hc
      · exact List.mem_cons_self ..
    · split
      · exact mem_onceA h
      · exact List.mem_cons_of_mem _ (mem_onceA h)
def growB (l : List Oper) (R : List Nat) (deps : Nat → List Nat) (Le : Array Bool) : Nat → List (Array Bool) → Bool
  | 0, ss => ss.all (fun s => s == Le)
  | m + 1, ss => ss.all (fun s => !(Region.ready .any l.toArray s).isEmpty && (Region.ready .any l.toArray s).all (fun i => R.contains i && (deps i).all (fun k => R.contains k && s.getD k false))) &&
      growB l R deps Le m (onceA (ss.flatMap (fun s => (Region.ready .any l.toArray s).map (fun i => s.setIfInBounds i true))))
theorem OpRun.nil {P : Program} {n : Cx} {ops : Array Oper} {o : Oper} {F' : List (Nat × Value)} {w' : World} {v : Value} {d : Nat} {K : Value → World → Prop} (hd : o.dst = some d) (hv : look F' d = some v) (hK : K v w') :
    RL P n ops [] F' w' ⟨fun a w' => a.defers = n.marks ∧ ∃ v, (∀ d, o.dst = some d → a.tmps[d]? = some v) ∧ K v w', [], fun _ _ => False⟩ :=
  RL.nil fun a k => ⟨k.defers, v, fun d' h => by rw [hd] at h; cases h; exact k.slot _ _ hv, hK⟩
def growR (n : Cx) (F : List (Nat × Value)) (l : List Oper) (R : List Nat) (Le : Array Bool) : Bool :=
  R.all fun i => Le.getD i false && Nat.blt i Le.size && (match l[i]? with | some o => o.guard.isNone && (match o.dst with | some d => Nat.blt d n.size && (look F d).isNone | none => false) | none => false) &&
    R.all fun j => Nat.beq i j || !(dstOf l i == dstOf l j)
theorem growR_spec {n : Cx} {F : List (Nat × Value)} {l : List Oper} {R : List Nat} {Le : Array Bool} (h : growR n F l R Le = true) (i : Nat) (hi : i ∈ R) :
    Le.getD i false = true ∧ i < Le.size ∧ (∃ o d, l[i]? = some o ∧ o.guard = none ∧ o.dst = some d ∧ Nat.blt d n.size = true ∧ look F d = none) ∧ ∀ j ∈ R, i ≠ j → dstOf l i ≠ dstOf l j := by
  unfold growR at h
  have h1 := List.all_eq_true.1 h i hi
  simp only [Bool.and_eq_true] at h1
  obtain ⟨⟨⟨a1, a2⟩, a3⟩, a4⟩ := h1
  refine ⟨a1, by simpa [Nat.blt_eq] using a2, ?_, fun j hj hne => ?_⟩
  · split at a3
    · rename_i o ho
      rw [Bool.and_eq_true] at a3
      obtain ⟨b1, b2⟩ := a3
      split at b2
      · rename_i d hd
        rw [Bool.and_eq_true] at b2
        exact ⟨o, d, ho, Option.isNone_iff_eq_none.1 b1, hd, b2.1, Option.isNone_iff_eq_none.1 b2.2⟩
      · cases b2
    · cases a3
  · have := List.all_eq_true.1 a4 j hj
    simp only [Bool.or_eq_true, Nat.beq_eq, Bool.not_eq_true', beq_eq_false_iff_ne] at this
    exact this.resolve_left hne
section
variable {P : Program} {n : Cx} {F : List (Nat × Value)} {p : Post} {l : List Oper} {N : Nat → Prop} {Wr : List Nat} {B : Nat} {f : Nat} {R : List Nat} {deps : Nat → List Nat} {Le : Array Bool} {Φ : Nat → Value → World → Prop}
theorem grow_go (w0 : World) (hR : growR n F l R Le = true)
    (hst : ∀ i v w1 w2, Φ i v w1 → Sub w1 w2 → Φ i v w2)
    (hop : ∀ i ∈ R, ∀ o, l[i]? = some o → ∀ vals w', Sub w0 w' → (∀ k ∈ deps i, Φ k (vals k) w') → OpRun P n o (depF l vals (deps i) ++ F) w' (fun v w'' => Sub w' w'' ∧ Φ i v w''))
    (hfin : ∀ vals w', Sub w0 w' → (∀ i ∈ R, Φ i (vals i) w') → RD P n l N Wr B Le f (depF l vals R ++ F) w' p) :
    ∀ (m : Nat) (ss : List (Array Bool)), growB l R deps Le m ss = true → ∀ s ∈ ss, s.size = Le.size → ∀ (vals : Nat → Value) (a : Act) (w' : World), Knows n F a → Sub w0 w' →
      (∀ i ∈ R, s.getD i false = true → Φ i (vals i) w' ∧ ∀ d, dstOf l i = some d → a.tmps[d]? = some (vals i)) → WA P l.toArray p.q (MW N Wr B) (f + m) s a w'
  | 0, ss, hg, s, hs, hz, vals, a, w', hk, hA, hv => by
    have e : s = Le := eq_of_beq (List.all_eq_true.1 hg s hs)
    subst e
    have hv' := fun i hi => hv i hi (growR_spec hR i hi).1
    exact hfin vals w' hA (fun i hi => (hv' i hi).1) a (hk.depF R (fun k hk' d hd => (hv' k hk').2 d hd))
  | m + 1, ss, hg, s, hs, hz, vals, a, w', hk, hA, hv => by
    unfold growB at hg
    rw [Bool.and_eq_true] at hg
    have h1 := List.all_eq_true.1 hg.1 s hs
    rw [Bool.and_eq_true] at h1
    refine ⟨fun e => ?_, fun i hi => ?_⟩
    · rw [e] at h1; exact absurd h1.1 (by decide)
    · have h2 := List.all_eq_true.1 h1.2 i hi
      rw [Bool.and_eq_true] at h2
      have hiR : i ∈ R := List.contains_iff_mem.1 h2.1
      have hdep : ∀ k ∈ deps i, k ∈ R ∧ s.getD k false = true := fun k hk' => by
        have := List.all_eq_true.1 h2.2 k hk'
        rw [Bool.and_eq_true] at this
        exact ⟨List.contains_iff_mem.1 this.1, this.2⟩
      obtain ⟨_, hlt, ⟨o, d, ho, hgd, hd, hdn, hF⟩, hne⟩ := growR_spec hR i hiR
      have hdo : dstOf l i = some d := by unfold dstOf; rw [ho]; exact hd
      unfold wpOp
      have ho' : l.toArray[i]? = some o := by simpa using ho
      have hw : Region.wanted o (yielded l.toArray a.tmps) = true := by unfold Region.wanted; rw [hgd]
      simp only [ho', hw, if_true]
      refine .inl ?_
      refine hop i hiR o ho vals w' hA (fun k hk' => (hv k (hdep k hk').1 (hdep k hk').2).1) a (hk.depF (deps i) (fun k hk' d' hd' => (hv k (hdep k hk').1 (hdep k hk').2).2 d' hd')) _ _ (fun v w'' hK => ?_)
      refine ⟨hK.1.agr, ?_⟩
      have hin : s.setIfInBounds i true ∈ onceA (ss.flatMap (fun s => (Region.ready .any l.toArray s).map (fun i => s.setIfInBounds i true))) :=
        mem_onceA (List.mem_flatMap.2 ⟨s, hs, List.mem_map.2 ⟨i, hi, rfl⟩⟩)
      refine grow_go w0 hR hst hop hfin m _ hg.2 _ hin (by simp [hz]) (updV vals i v) (a.put o.dst v) w'' ?_ (hA.trans hK.1) (fun j hj hjs => ?_)
      · rw [hd]
        refine (hk.put d v hdn).keep (fun t u ht => ?_)
        rw [look_cons, if_neg]
        · exact ht
        · intro e; rw [← e, hF] at ht; cases ht
      · by_cases hij : i = j
        · subst hij
          rw [updV_same]
          refine ⟨hK.2, fun d' hd' => ?_⟩
          rw [hdo] at hd'; cases hd'
          rw [hd]
          have hd2 : d < a.tmps.size := by rw [hk.size]; simpa [Nat.blt_eq] using hdn
          simp [Act.put, hd2]
        · rw [updV_ne (fun e => hij e.symm)]
          rw [Array.getD_eq_getD_getElem?, Array.getElem?_setIfInBounds_ne hij, ← Array.getD_eq_getD_getElem?] at hjs
          have hvj := hv j hj hjs
          refine ⟨hst j _ _ _ hvj.1 hK.1, fun d' hd' => ?_⟩
          have hdd : d ≠ d' := fun e => hne j hj hij (by rw [hdo, hd', e])
          rw [hd, ← hvj.2 d' hd']
          simp [Act.put, Array.getElem?_setIfInBounds_ne hdd]
theorem RD.grow {L : Array Bool} {w0 : World} (R : List Nat) (deps : Nat → List Nat) (Le : Array Bool) (m : Nat) (Φ : Nat → Value → World → Prop) (hR : growR n F l R Le = true) (hg : growB l R deps Le m [L] = true) (hz : L.size = Le.size) (hL : R.all (fun i => !L.getD i false) = true)
    (hst : ∀ i v w1 w2, Φ i v w1 → Sub w1 w2 → Φ i v w2)
    (hop : ∀ i ∈ R, ∀ o, l[i]? = some o → ∀ vals w', Sub w0 w' → (∀ k ∈ deps i, Φ k (vals k) w') → OpRun P n o (depF l vals (deps i) ++ F) w' (fun v w'' => Sub w' w'' ∧ Φ i v w''))
    (hfin : ∀ vals w', Sub w0 w' → (∀ i ∈ R, Φ i (vals i) w') → RD P n l N Wr B Le f (depF l vals R ++ F) w' p) : RD P n l N Wr B L (f + m) F w0 p := fun a k =>
  grow_go w0 hR hst hop hfin m [L] hg L (by simp) hz (fun _ => undef) a w0 k (Sub.refl _) (fun i hi h => by
    have := List.all_eq_true.1 hL i hi
    rw [h] at this
    cases this)
end
section
variable {P : Program} {n : Cx} {ops : Array Oper} {F : List (Nat × Value)} {w : World} {d : Nat} {t : TypeId} {pos : String} {af : Array Edge}
theorem run_ev {o : Op} {v : Value} {K : Value → World → Prop} (he : EvOp P F o w v) (hd : Nat.blt d n.size = true) (hK : K v w) (hR : n.round = none := by rfl) : OpRun P n ⟨some d, o, t, pos, af, none⟩ F w K :=
  OpRun.of_RL (ops := #[]) hR rfl hd (RL.ev he rfl hd (OpRun.nil (v := v) rfl (by simp [upd, look_cons]) hK))
theorem run_lit {ty e s by_} (ht : sliceOf P ty = some (e, s, by_)) (hd : Nat.blt d n.size = true) (hR : n.round = none := by rfl) :
    OpRun P n ⟨some d, .buildSlice ty 0 #[], t, pos, af, none⟩ F w (fun v w' => Sub w w' ∧ ∃ a, v = .slice a 0 0) :=
  OpRun.of_RL (ops := #[]) hR rfl hd (RL.buildSlice0 ht rfl hd fun b w' _ _ _ s1 => OpRun.nil (v := .slice (some ⟨b, 0, none⟩) 0 0) rfl (by simp [upd, look_cons]) ⟨s1, _, rfl⟩)
theorem run_app {ty y x a0 ax m c e s by_ z news} (ht : sliceOf P ty = some (e, s, by_)) (hz : zeroOf P e = some z) (hzs : z.cells.size = s) (hs : Nat.blt 0 s = true) (hy : XL.ev F y = some (.slice a0 0 0)) (hx : XL.ev F x = some (.slice ax m c))
    (hnew : Sl w ax s news) (hm : m = news.length) (hnl : ∀ r ∈ news, r.length = s) (hp : news.all (fun r => r.all plainV) = true) (hlen : m * by_ ≤ 140737488355328) (hlen' : m ≤ 140737488355328) (hd : Nat.blt d n.size = true) (hR : n.round = none := by rfl) :
    OpRun P n ⟨some d, .call ⟨.builtin .append, #[y, x], #[ty, ty]⟩, t, pos, af, none⟩ F w (fun v w' => Sub w w' ∧ ∃ a c, v = .slice a news.length c ∧ news.length ≤ c ∧ Sl w' a s news ∧ (news = [] ∨ ∃ b cs, a = some ⟨b, 0, none⟩ ∧ Has w' b cs e)) := by
  refine OpRun.of_RL (ops := #[]) hR rfl hd (RL.append2 (base := w.heap.size) (rows := []) ht hz hzs hs hy hx (.inr ⟨a0, rfl, ⟨fun h => absurd rfl h, fun k r h => by simp at h⟩, fun r hr => by cases hr⟩) hnew hm hnl hp (by simpa using hlen) (by simpa using hlen') (Nat.le_refl _) rfl hd fun v' w' h1 h2 h3 h4 => ?_)
  have hS : Sub w w' := ⟨h3.os, h3.tape, h3.output, h3.size, fun k hk => h3.block k hk (fun e => absurd e.2 (Nat.not_le.2 hk))⟩
  rw [List.nil_append] at h1 h2
  refine OpRun.nil (v := v') rfl (by simp [upd, look_cons]) ⟨hS, ?_⟩
  by_cases hne : news = []
  · rcases h1 with h1 | ⟨a1, rfl, h5, h6⟩
    · obtain ⟨a, c', rfl, hc⟩ := h1.form
      exact ⟨a, c', rfl, hc, h1.sl.1, .inl hne⟩
    · exact ⟨a1, _, rfl, Nat.le_refl _, h5, .inl hne⟩
  · have h1 := h2 (.inl hne)
    obtain ⟨b, cap, ex, rfl, _, hc, _, hb, _⟩ := h1.has (List.length_pos_iff.2 hne)
    exact ⟨some ⟨b, 0, none⟩, cap, rfl, hc, h1.sl.1, .inr ⟨b, _, rfl, hb⟩⟩
theorem run_alloc {el z B} (hz : zeroOf P el = some z) (hB : B ≤ w.heap.size) (hd : Nat.blt d n.size = true) (hR : n.round = none := by rfl) :
    OpRun P n ⟨some d, .alloc el, t, pos, af, none⟩ F w (fun v w' => Sub w w' ∧ ∃ b, v = .pointer (some ⟨b, 0, none⟩) ∧ B ≤ b ∧ Has w' b z.cells.toList el) :=
  OpRun.of_RL (ops := #[]) hR rfl hd (RL.alloc hz rfl hd fun b w' e _ h s1 => OpRun.nil (v := .pointer (some ⟨b, 0, none⟩)) rfl (by simp [upd, look_cons]) ⟨s1, b, rfl, e ▸ hB, h⟩)
end
end Go.XL
set_option linter.unusedVariables false
set_option linter.unusedSimpArgs false
namespace Go.Proofs.Ytfkanamdlndkfaa
open Go Go.XL
theorem pairs_same {l : List It} {o : OpT} (h : (o.kind = 1 ∨ o.kind = 6 ∨ o.kind = 4 ∨ o.kind = 5) ∨ ¬ (pairsM l o).2.e = 0) : (pairsM l o).1 = l := by
  unfold pairsM at h ⊢
  dsimp only at h ⊢
  by_cases k6 : o.kind = 6
  · rw [if_pos k6]
  · rw [if_neg k6] at h ⊢
    by_cases k2 : o.kind = 2
    · rw [if_pos k2] at h ⊢
      split
      · rfl
      · rename_i h2
        rw [if_neg h2] at h
        rcases h with h | h
        · omega
        · split at h <;> exact absurd rfl h
    · rw [if_neg k2] at h ⊢
      by_cases k4 : o.kind = 4
      · rw [if_pos k4]; split <;> (try split) <;> rfl
      · rw [if_neg k4] at h ⊢
        by_cases k5 : o.kind = 5
        · rw [if_pos k5]
        · rw [if_neg k5] at h ⊢
          split
          · rfl
          · rename_i h2
            rw [if_neg h2] at h
            rcases h with h | h
            · rw [if_neg (by omega)]
            · exact absurd rfl h
theorem row_same {l : List Int} {o : OpT} (h : (o.kind = 1 ∨ o.kind = 6) ∨ ¬ (rowM l o).2.e = 0) : (rowM l o).1 = l := by
  unfold rowM at h ⊢
  by_cases k6 : o.kind = 6
  · rw [if_pos k6]
  · rw [if_neg k6] at h ⊢
    by_cases k2 : o.kind = 2 ∨ o.kind = 4
    · rw [if_pos k2] at h ⊢
      split
      · rfl
      · rename_i h2
        rw [if_neg h2] at h
        rcases h with h | h
        · omega
        · exact absurd rfl h
    · rw [if_neg k2] at h ⊢
      by_cases k1 : o.kind = 1
      · rw [if_pos k1]; split <;> rfl
      · rw [if_neg k1] at h ⊢
        split
        · rfl
        · rename_i h2
          rw [if_neg h2] at h
          rcases h with h | h
          · omega
          · split at h <;> exact absurd rfl h
theorem heap_same {l : List It} {o : OpT} (h : (o.kind = 1 ∨ o.kind = 6) ∨ ¬ (heapM l o).2.e = 0) : (heapM l o).1 = l := by
  unfold heapM at h ⊢
  by_cases k6 : o.kind = 6
  · rw [if_pos k6]
  · rw [if_neg k6] at h ⊢
    by_cases k2 : o.kind = 2
    · rw [if_pos k2] at h ⊢
      split
      · rfl
      · rename_i h2
        rw [if_neg h2] at h
        rcases h with h | h
        · omega
        · exact absurd rfl h
    · rw [if_neg k2] at h ⊢
      split
      · rfl
      · rename_i h2
        rw [if_neg h2] at h
        rcases h with h | h
        · rw [if_neg (by omega)]
        · exact absurd rfl h
theorem reads_same {m : Mo} {o : OpT} (h : readsP o ∨ ¬ (doM m o).2.e = 0) : (doM m o).1 = m := by
  have hr : readsP o → (o.kind = 1 ∨ o.kind = 6 ∨ (o.box = 1 ∧ (o.kind = 4 ∨ o.kind = 5))) := fun h => h.2
  unfold doM at h ⊢
  by_cases b1 : o.box = 1
  · rw [if_pos b1] at h ⊢
    show ({ m with map := (pairsM m.map o).1 } : Mo) = m
    rw [pairs_same (h.imp (fun h => by have := hr h; omega) id)]
  · rw [if_neg b1] at h ⊢
    by_cases b2 : o.box = 2
    · rw [if_pos b2] at h ⊢
      show ({ m with tab := (pairsM m.tab o).1 } : Mo) = m
      rw [pairs_same (h.imp (fun h => by have := hr h; omega) id)]
    · rw [if_neg b2] at h ⊢
      by_cases b3 : o.box = 3
      · rw [if_pos b3] at h ⊢
        show ({ m with row := (rowM m.row o).1 } : Mo) = m
        rw [row_same (h.imp (fun h => by have := hr h; omega) id)]
      · rw [if_neg b3] at h ⊢
        show ({ m with heap := (heapM m.heap o).1 } : Mo) = m
        rw [heap_same (h.imp (fun h => by have := hr h; omega) id)]
def PhS (sz : Nat) (e : TypeId) (rows : List (List Value)) (v : Value) (w : World) : Prop := ∃ a c, v = .slice a rows.length c ∧ rows.length ≤ c ∧ Sl w a sz rows ∧ (rows = [] ∨ ∃ b cs, a = some ⟨b, 0, none⟩ ∧ Has w b cs e)
def PhR (f : Mo) (B : Nat) (z : Value) (el : TypeId) (i : Nat) (v : Value) (w : World) : Prop :=
  if i = 3 then PhS 2 47 (f.map.map It.cells) v w else if i = 7 then PhS 2 47 (f.tab.map It.cells) v w else if i = 11 then PhS 1 2 (f.row.map fun x => [i6 x]) v w else if i = 15 then PhS 2 47 (f.heap.map It.cells) v w
  else if i = 16 then ∃ a1 c1 a2 c2 a3 c3 a4 c4, v = .agg #[.slice a1 f.map.length c1, .slice a2 f.tab.length c2, .slice a3 f.row.length c3, .slice a4 f.heap.length c4] ∧ PhS 2 47 (f.map.map It.cells) (.slice a1 f.map.length c1) w ∧ PhS 2 47 (f.tab.map It.cells) (.slice a2 f.tab.length c2) w ∧ PhS 1 2 (f.row.map fun x => [i6 x]) (.slice a3 f.row.length c3) w ∧ PhS 2 47 (f.heap.map It.cells) (.slice a4 f.heap.length c4) w
  else if i = 17 then ∃ b, v = .pointer (some ⟨b, 0, none⟩) ∧ B ≤ b ∧ Has w b z.cells.toList el else ∃ a, v = .slice a 0 0
theorem PhS.sub {sz : Nat} {e : TypeId} {rows : List (List Value)} {v : Value} {w w' : World} (h : PhS sz e rows v w) (s : Sub w w') : PhS sz e rows v w' :=
  let ⟨a, c, h1, h2, h3, h4⟩ := h
  ⟨a, c, h1, h2, h3.sub s, h4.imp id fun ⟨b, cs, h5, h6⟩ => ⟨b, cs, h5, h6.sub s⟩⟩
theorem PhS.apart {sz : Nat} {e e2 : TypeId} {rows : List (List Value)} {w : World} {a : Option Addr} {b : Nat} {cs : List Value} (h : Sl w a sz rows) (h2 : rows = [] ∨ ∃ b cs, a = some ⟨b, 0, none⟩ ∧ Has w b cs e) (hb : Has w b cs e2) (he : ¬ e = e2) : Ft (fun k => rows ≠ [] ∧ a = some ⟨k, 0, none⟩) (fun u => Sl u a sz rows) w ∧ ∀ k, (rows ≠ [] ∧ a = some ⟨k, 0, none⟩) → k ≠ b := by
  rcases h2 with rfl | ⟨b', cs', rfl, h3⟩
  · exact ⟨⟨fun k hk => absurd rfl hk.1, fun u _ => Sl.nil _ _ _⟩, fun k hk => absurd rfl hk.1⟩
  · refine ⟨⟨fun k hk => ?_, fun u a => ⟨h.some, fun i r hr j v hv => ?_⟩⟩, fun k hk e1 => ?_⟩
    · have := hk.2; simp only [Option.some.injEq, Addr.mk.injEq] at this; rw [← this.1]; exact h3.lt
    · have hn : rows ≠ [] := fun e => by rw [e] at hr; simp at hr
      refine cell_agr (h.row i r hr j v hv) (fun hk => hk ⟨hn, ?_⟩) a
      simp only [Option.getD_some, add_lit]
    · have := hk.2
      simp only [Option.some.injEq, Addr.mk.injEq] at this
      rw [this.1, e1] at h3
      unfold Has at h3 hb
      rw [h3] at hb
      simp only [Option.some.injEq] at hb
      injection hb with _ hb
      exact he hb
theorem PhR.sub {f : Mo} {B : Nat} {z : Value} {el : TypeId} (i : Nat) (v : Value) (w w' : World) (h : PhR f B z el i v w) (s : Sub w w') : PhR f B z el i v w' := by
  unfold PhR at *
  split
  · rename_i h1; rw [if_pos h1] at h; exact h.sub s
  · rename_i h1; rw [if_neg h1] at h
    split
    · rename_i h2; rw [if_pos h2] at h; exact h.sub s
    · rename_i h2; rw [if_neg h2] at h
      split
      · rename_i h3; rw [if_pos h3] at h; exact h.sub s
      · rename_i h3; rw [if_neg h3] at h
        split
        · rename_i h4; rw [if_pos h4] at h; exact h.sub s
        · rename_i h4; rw [if_neg h4] at h
          split
          · rename_i h6; rw [if_pos h6] at h; obtain ⟨a1, c1, a2, c2, a3, c3, a4, c4, e, p1, p2, p3, p4⟩ := h; exact ⟨a1, c1, a2, c2, a3, c3, a4, c4, e, p1.sub s, p2.sub s, p3.sub s, p4.sub s⟩
          · rename_i h6; rw [if_neg h6] at h
            split
            · rename_i h5; rw [if_pos h5] at h; obtain ⟨b, e, k, hb⟩ := h; exact ⟨b, e, k, hb.sub s⟩
            · rename_i h5; rw [if_neg h5] at h; exact h
theorem it_plain2 (l : List It) : (l.map It.cells).all (fun r => r.all plainV) = true := by rw [List.all_eq_true]; intro r hr; obtain ⟨x, _, rfl⟩ := List.mem_map.1 hr; rfl
theorem it_len2 (l : List It) : ∀ r ∈ l.map It.cells, r.length = 2 := fun r hr => by obtain ⟨z, _, rfl⟩ := List.mem_map.1 hr; rfl
theorem i_plain1 (l : List Int) : (l.map fun x => [i6 x]).all (fun r => r.all plainV) = true := by rw [List.all_eq_true]; intro r hr; obtain ⟨x, _, rfl⟩ := List.mem_map.1 hr; rfl
theorem i_len1 (l : List Int) : ∀ r ∈ l.map fun x => [i6 x], r.length = 1 := fun r hr => by obtain ⟨z, _, rfl⟩ := List.mem_map.1 hr; rfl
def depR (i : Nat) : List Nat := if i = 3 then [0] else if i = 7 then [4] else if i = 11 then [8] else if i = 15 then [12] else if i = 16 then [3, 7, 11, 15] else []
def doneR : Array Bool := #[true, true, true, true, true, true, true, true, true, true, true, true, true, true, true, true, true, true, false]
def model0 : Value := .agg #[.slice none 0 0, .slice none 0 0, .slice none 0 0, .slice none 0 0]
set_option maxHeartbeats 1000000 in
theorem law_ModelReads (w : World) (p : Ph) (m : Mo) (hc : m.map.length ≤ p.c1 ∧ m.tab.length ≤ p.c2 ∧ m.row.length ≤ p.c3 ∧ m.heap.length ≤ p.c4) (hR : MoR w p m) (o : OpT) (ho : o.ok) :
    FC Try.prog 3 [moV p m, .agg o.cells.toArray] w (Val (.bool true) w) := by
  have hRf := fewM_R hR
  have hSf := fewM_S hc
  have hF0 := Ft.of_sub fun u s => hRf.sub s
  have hl5 := fewM_l m
  obtain ⟨f, hf⟩ : ∃ f, f = fewM m := ⟨_, rfl⟩
  rw [← hf] at hRf hSf hF0 hl5
  refine FC.intro Try.func3 rfl Try.ntmps3 rfl ?_
  have S := Sub.refl w
  refine RC.seq (RC.region rfl ?_);refine RL.box rfl rfl rfl (fun b_2 w_2 e_2 z_2 hb_2 s_2 => ?_);have ge_2 := S.le e_2;have d_hF0_b_2 := hF0.neNew e_2;have S := S.trans s_2;have hF0 := hF0.sub s_2
  have hb_2 : Has w_2 b_2 ([.slice p.a1 m.map.length p.c1, .slice p.a2 m.tab.length p.c2, .slice p.a3 m.row.length p.c3, .slice p.a4 m.heap.length p.c4]) _ := hb_2
  refine RL.box rfl rfl rfl (fun b_3 w_3 e_3 z_3 hb_3 s_3 => ?_);have ge_3 := S.le e_3;have n_2__3 := hb_2.ne e_3;have d_hF0_b_3 := hF0.neNew e_3;have S := S.trans s_3;have hF0 := hF0.sub s_3;have hb_2 := hb_2.sub s_3
  have hb_3 : Has w_3 b_3 ([.int .i64 o.box, .int .i64 o.kind, .int .i64 o.a, .int .i64 o.b]) _ := hb_3
  refine RL.asS rfl ?_;refine RL.nil (RC.back (RC.seq (RC.region rfl ?_)));refine RL.eS (.loadR ([.slice p.a1 m.map.length p.c1, .slice p.a2 m.tab.length p.c2, .slice p.a3 m.row.length p.c3, .slice p.a4 m.heap.length p.c4]) sh25 rfl hb_2.row rfl) ?_;refine RL.call rfl ok4 (FC.asV (c_few14 p m hc w_3) (show _ = moV p f by rw [hf])) rfl rfl ?_;rintro _ w1 ⟨rfl, s2⟩;have S := S.trans s2;have hF0 := hF0.sub s2;have hb_2 := hb_2.sub s2;have hb_3 := hb_3.sub s2;refine RL.stS sh25 rfl rfl rfl hb_2 (fun w3 z3 hb_2 a3 => ?_);have S := S.upd a3 ge_2;have hF0 := hF0.updD a3 d_hF0_b_2;have hb_3 := hb_3.upd a3 n_2__3.symm
  have hb_2 : Has w3 b_2 ([.slice p.a1 f.map.length p.c1, .slice p.a2 f.tab.length p.c2, .slice p.a3 f.row.length p.c3, .slice p.a4 f.heap.length p.c4]) _ := hb_2.now (by kernel_rfl)
  refine RL.nil (RC.back (RC.seq ?_));refine RC.drawD (fun k => False) [18] w3.heap.size 19 rfl rfl mxo (fun w4 s5 => ?_)
  have hNN : ∀ k, ((False) ∨ w3.heap.size ≤ k) → w.heap.size ≤ k := fun k e => e.elim (fun e => e.elim) (fun e => Nat.le_trans S.size e)
  have ent_S := S.size
  have hN0 : ∀ k, w3.heap.size ≤ k → w.heap.size ≤ k := fun k e => Nat.le_trans S.size e
  have ltD_hF0 := fun k hk => (hF0.ge k hk).2
  have ltD_b_2 := hb_2.lt;have ltD_b_3 := hb_3.lt;have szD := Nat.le_refl w3.heap.size;have S := S.trans s5;have hF0 := hF0.sub s5;have hb_2 := hb_2.sub s5;have hb_3 := hb_3.sub s5;have szD := Nat.le_trans szD s5.size;refine RD.tS 1 rfl (fun w' s' => .field0 fo25_0 rfl) ?_;refine RD.tS 2 rfl (fun w' s' => .load1 sh22 rfl ((hb_2.step s' (fun e => e.elim (fun e => e.elim) (fun e => Nat.not_le.2 ltD_b_2 e))).cell rfl)) ?_;refine RD.tS 5 rfl (fun w' s' => .field0 fo25_1 rfl) ?_;refine RD.tS 6 rfl (fun w' s' => .load1 sh22 rfl ((hb_2.step s' (fun e => e.elim (fun e => e.elim) (fun e => Nat.not_le.2 ltD_b_2 e))).cell rfl)) ?_;refine RD.tS 9 rfl (fun w' s' => .field0 fo25_2 rfl) ?_;refine RD.tS 10 rfl (fun w' s' => .load1 sh23 rfl ((hb_2.step s' (fun e => e.elim (fun e => e.elim) (fun e => Nat.not_le.2 ltD_b_2 e))).cell rfl)) ?_;refine RD.tS 13 rfl (fun w' s' => .field0 fo25_3 rfl) ?_;refine RD.tS 14 rfl (fun w' s' => .load1 sh22 rfl ((hb_2.step s' (fun e => e.elim (fun e => e.elim) (fun e => Nat.not_le.2 ltD_b_2 e))).cell rfl)) ?_;refine RD.grow (f := 1) [0, 3, 4, 7, 8, 11, 12, 15, 16, 17] depR doneR 10 (PhR f w3.heap.size model0 25) (by kernel_rfl) (by kernel_rfl) rfl (by kernel_rfl) PhR.sub (fun i hi o' ho' vals w' s hd => ?_) (fun vals wg sg hv => ?_)
  · have hRw := hRf.sub (S.trans s)
    obtain ⟨g1, g2, g3, g4⟩ := hl5
    simp only [List.mem_cons, List.not_mem_nil, or_false] at hi
    rcases hi with rfl | rfl | rfl | rfl | rfl | rfl | rfl | rfl | rfl | rfl <;> cases ho'
    · exact (run_lit sl22 rfl).mono fun v w'' h => h
    · obtain ⟨a0, e0⟩ : ∃ a, vals 0 = .slice a 0 0 := hd 0 (by decide)
      exact OpRun.mono (run_app sl22 ze47 rfl rfl (congrArg some e0) rfl hRw.h1 (by rw [List.length_map]) (it_len2 _) (it_plain2 _) (by omega) (by omega) rfl) fun v w'' h => h
    · exact (run_lit sl22 rfl).mono fun v w'' h => h
    · obtain ⟨a0, e0⟩ : ∃ a, vals 4 = .slice a 0 0 := hd 4 (by decide)
      exact OpRun.mono (run_app sl22 ze47 rfl rfl (congrArg some e0) rfl hRw.h2 (by rw [List.length_map]) (it_len2 _) (it_plain2 _) (by omega) (by omega) rfl) fun v w'' h => h
    · exact (run_lit sl23 rfl).mono fun v w'' h => h
    · obtain ⟨a0, e0⟩ : ∃ a, vals 8 = .slice a 0 0 := hd 8 (by decide)
      exact OpRun.mono (run_app sl23 ze2 rfl rfl (congrArg some e0) rfl hRw.h3 (by rw [List.length_map]) (i_len1 _) (i_plain1 _) (by omega) (by omega) rfl) fun v w'' h => h
    · exact (run_lit sl22 rfl).mono fun v w'' h => h
    · obtain ⟨a0, e0⟩ : ∃ a, vals 12 = .slice a 0 0 := hd 12 (by decide)
      exact OpRun.mono (run_app sl22 ze47 rfl rfl (congrArg some e0) rfl hRw.h4 (by rw [List.length_map]) (it_len2 _) (it_plain2 _) (by omega) (by omega) rfl) fun v w'' h => h
    · obtain ⟨a1, c1, e3, k1, q1, r1⟩ : PhS 2 47 (f.map.map It.cells) (vals 3) w' := hd 3 (by decide)
      obtain ⟨a2, c2, e7, k2, q2, r2⟩ : PhS 2 47 (f.tab.map It.cells) (vals 7) w' := hd 7 (by decide)
      obtain ⟨a3, c3, e11, k3, q3, r3⟩ : PhS 1 2 (f.row.map fun x => [i6 x]) (vals 11) w' := hd 11 (by decide)
      obtain ⟨a4, c4, e15, k4, q4, r4⟩ : PhS 2 47 (f.heap.map It.cells) (vals 15) w' := hd 15 (by decide)
      rw [List.length_map] at e3 e7 e11 e15
      show OpRun _ _ _ ((14, vals 3) :: (18, vals 7) :: (22, vals 11) :: (26, vals 15) :: _) _ _
      rw [e3, e7, e11, e15]
      exact run_ev (.buildS (vs := [(0, .slice a1 f.map.length c1), (1, .slice a2 f.tab.length c2), (2, .slice a3 f.row.length c3), (3, .slice a4 f.heap.length c4)]) (cs := ([.slice a1 f.map.length c1, .slice a2 f.tab.length c2, .slice a3 f.row.length c3, .slice a4 f.heap.length c4] : List Value).toArray) ze25 pl25 rfl (by kernel_rfl)) rfl ⟨Sub.refl _, a1, c1, a2, c2, a3, c3, a4, c4, rfl, ⟨a1, c1, by rw [List.length_map], k1, q1, r1⟩, ⟨a2, c2, by rw [List.length_map], k2, q2, r2⟩, ⟨a3, c3, by rw [List.length_map], k3, q3, r3⟩, ⟨a4, c4, by rw [List.length_map], k4, q4, r4⟩⟩
    · exact (run_alloc ze25 (Nat.le_trans szD s.size) rfl).mono fun v w'' h => h
  obtain ⟨a1, c1, a2, c2, a3, c3, a4, c4, e16, ⟨b1, d1, E1, k1, q1, r1⟩, ⟨b2, d2, E2, k2, q2, r2⟩, ⟨b3, d3, E3, k3, q3, r3⟩, ⟨b4, d4, E4, k4, q4, r4⟩⟩ : ∃ a1 c1 a2 c2 a3 c3 a4 c4, vals 16 = .agg #[.slice a1 f.map.length c1, .slice a2 f.tab.length c2, .slice a3 f.row.length c3, .slice a4 f.heap.length c4] ∧ PhS 2 47 (f.map.map It.cells) (.slice a1 f.map.length c1) wg ∧ PhS 2 47 (f.tab.map It.cells) (.slice a2 f.tab.length c2) wg ∧ PhS 1 2 (f.row.map fun x => [i6 x]) (.slice a3 f.row.length c3) wg ∧ PhS 2 47 (f.heap.map It.cells) (.slice a4 f.heap.length c4) wg := hv 16 (by decide)
  simp only [Value.slice.injEq] at E1 E2 E3 E4
  obtain ⟨rfl, _, rfl⟩ := E1
  obtain ⟨rfl, _, rfl⟩ := E2
  obtain ⟨rfl, _, rfl⟩ := E3
  obtain ⟨rfl, _, rfl⟩ := E4
  obtain ⟨b_5, e17, fr_b_5, hb_5⟩ : ∃ b, vals 17 = .pointer (some ⟨b, 0, none⟩) ∧ w3.heap.size ≤ b ∧ Has wg b [.slice none 0 0, .slice none 0 0, .slice none 0 0, .slice none 0 0] 25 := hv 17 (by decide)
  rw [List.length_map] at k1 k2 k3 k4
  show RD _ _ _ _ _ _ _ _ ((11, vals 0) :: (14, vals 3) :: (15, vals 4) :: (18, vals 7) :: (19, vals 8) :: (22, vals 11) :: (23, vals 12) :: (26, vals 15) :: (27, vals 16) :: (5, vals 17) :: _) _ _
  rw [e16, e17]
  have ge_5 := hN0 _ fr_b_5;have S := S.trans sg;have hF0 := hF0.sub sg;have hb_2 := hb_2.sub sg;have hb_3 := hb_3.sub sg;have szD := Nat.le_trans szD sg.size
  have nb_5_b_2 : b_5 ≠ b_2 := by omega
  have nb_5_b_3 : b_5 ≠ b_3 := by omega
  have d_hF0_b_5 : ∀ k, k < w.heap.size → k ≠ b_5 := fun k hk e => by omega
  obtain ⟨t1, x1⟩ := PhS.apart q1 r1 hb_5 (by decide)
  obtain ⟨t2, x2⟩ := PhS.apart q2 r2 hb_5 (by decide)
  obtain ⟨t3, x3⟩ := PhS.apart q3 r3 hb_5 (by decide)
  obtain ⟨t4, x4⟩ := PhS.apart q4 r4 hb_5 (by decide)
  have hR0 : Ft _ (fun u => MoR u ⟨a1, c1, a2, c2, a3, c3, a4, c4⟩ f) wg := ((t1.and t2).and (t3.and t4)).imp fun u h => ⟨h.1.1, h.1.2, h.2.1, h.2.2⟩
  have d_hR0_b_5 := fun k (hk : (_ ∨ _) ∨ _ ∨ _) => hk.elim (fun h => h.elim (x1 k) (x2 k)) (fun h => h.elim (x3 k) (x4 k))
  have hS0 : MoS ⟨a1, c1, a2, c2, a3, c3, a4, c4⟩ f := ⟨k1, k2, k3, k4, by omega, by omega, by omega, by omega⟩
  refine RD.oneS 18 rfl ?_;refine RL.stS sh25 rfl rfl rfl hb_5 (fun w6 z6 hb_5 a6 => ?_);have S := S.upd a6 ge_5;have hF0 := hF0.updD a6 d_hF0_b_5;have hb_2 := hb_2.upd a6 nb_5_b_2.symm;have hb_3 := hb_3.upd a6 nb_5_b_3.symm;have szD := Nat.le_trans szD a6.size;have hR0 := hR0.updD a6 d_hR0_b_5;refine RD.backW rfl (a6.mono fun k _ e => e ▸ (.inr fr_b_5)) ?_;refine RD.done (by kernel_rfl) (RC.back ?_);refine RC.seq (RC.region rfl ?_);refine RL.eS (.loadR ([.slice p.a1 f.map.length p.c1, .slice p.a2 f.tab.length p.c2, .slice p.a3 f.row.length p.c3, .slice p.a4 f.heap.length p.c4]) sh25 rfl hb_2.row rfl) ?_;refine RL.eS (.loadR ([.int .i64 o.box, .int .i64 o.kind, .int .i64 o.a, .int .i64 o.b]) sh27 rfl hb_3.row rfl) ?_;refine RL.call rfl ok5 (c_Do p f hSf o w6 _ hF0) rfl rfl ?_;rintro _ w7 h31
  obtain ⟨s8, p', r1, r2, e, M', rfl, hs', hF', hup, hy, hn⟩ := h31.out
  have S := S.trans s8;have hF0 := hF0.sub s8;have hb_2 := hb_2.sub s8;have hb_3 := hb_3.sub s8;have hb_5 := hb_5.sub s8;have hR0 := hR0.sub s8
  have hF'n := hF'.now
  obtain ⟨WA, SA, hM'⟩ : ∃ W, Sub W w7 ∧ MoR W p' r1 := ⟨_, Sub.refl _, hF'n⟩
  refine RL.mvS rfl ?_;refine RL.eS (.extract rfl rfl) ?_;refine RL.eS (.extract rfl rfl) ?_;refine RL.eS (.extract rfl rfl) ?_;refine RL.alloc ze25 rfl rfl (fun b_6 w_6 e_6 z_6 hb_6 s_6 => ?_);have ge_6 := S.le e_6;have n_2__6 := hb_2.ne e_6;have n_3__6 := hb_3.ne e_6;have n_5__6 := hb_5.ne e_6;have d_hF0_b_6 := hF0.neNew e_6;have d_hR0_b_6 := hR0.neNew e_6;have S := S.trans s_6;have hF0 := hF0.sub s_6;have hb_2 := hb_2.sub s_6;have hb_3 := hb_3.sub s_6;have hb_5 := hb_5.sub s_6;have hR0 := hR0.sub s_6
  have geSA_6 := SA.le e_6
  have SA := SA.trans s_6;refine RL.alloc ze31 rfl rfl (fun b_7 w_7 e_7 z_7 hb_7 s_7 => ?_);have ge_7 := S.le e_7;have n_2__7 := hb_2.ne e_7;have n_3__7 := hb_3.ne e_7;have n_5__7 := hb_5.ne e_7;have n_6__7 := hb_6.ne e_7;have d_hF0_b_7 := hF0.neNew e_7;have d_hR0_b_7 := hR0.neNew e_7;have S := S.trans s_7;have hF0 := hF0.sub s_7;have hb_2 := hb_2.sub s_7;have hb_3 := hb_3.sub s_7;have hb_5 := hb_5.sub s_7;have hR0 := hR0.sub s_7
  have geSA_7 := SA.le e_7
  have SA := SA.trans s_7;have hb_6 := hb_6.sub s_7;refine RL.stS sh25 rfl rfl rfl hb_6 (fun w9 z9 hb_6 a9 => ?_);have S := S.upd a9 ge_6;have hF0 := hF0.updD a9 d_hF0_b_6;have hb_2 := hb_2.upd a9 n_2__6;have hb_3 := hb_3.upd a9 n_3__6;have hb_5 := hb_5.upd a9 n_5__6;have hR0 := hR0.updD a9 d_hR0_b_6;have SA := SA.upd a9 geSA_6;have hb_7 := hb_7.upd a9 n_6__7.symm;refine RL.stS sh31 rfl rfl rfl hb_7 (fun w10 z10 hb_7 a10 => ?_);have S := S.upd a10 ge_7;have hF0 := hF0.updD a10 d_hF0_b_7;have hb_2 := hb_2.upd a10 n_2__7;have hb_3 := hb_3.upd a10 n_3__7;have hb_5 := hb_5.upd a10 n_5__7;have hR0 := hR0.updD a10 d_hR0_b_7;have SA := SA.upd a10 geSA_7;have hb_6 := hb_6.upd a10 n_6__7;refine RL.asS rfl ?_;refine RL.nil (RC.back (RC.seq (RC.seq (RC.region rfl ?_))));refine RL.eS (.loadR ([.slice p.a1 f.map.length p.c1, .slice p.a2 f.tab.length p.c2, .slice p.a3 f.row.length p.c3, .slice p.a4 f.heap.length p.c4]) sh25 rfl hb_2.row rfl) ?_;refine RL.eS (.loadR (_) sh25 rfl hb_5.row rfl) ?_;refine RL.call rfl ok6 (FC.yes (c_refMSame p f hSf ⟨a1, c1, a2, c2, a3, c3, a4, c4⟩ f hS0 w10 (hRf.sub S) hR0.now) ⟨rfl, rfl, rfl, rfl⟩) rfl rfl ?_;rintro _ w11 ⟨rfl, s12⟩;have S := S.trans s12;have hF0 := hF0.sub s12;have hb_2 := hb_2.sub s12;have hb_3 := hb_3.sub s12;have hb_5 := hb_5.sub s12;have hR0 := hR0.sub s12;have SA := SA.trans s12;have hb_6 := hb_6.sub s12;have hb_7 := hb_7.sub s12;refine RL.eS (.not rfl) ?_;refine RL.mvS rfl ?_;refine RL.call rfl ok7 (c_alive14 w11) rfl rfl ?_;rintro _ w13 ⟨rfl, s14⟩;have S := S.trans s14;have hF0 := hF0.sub s14;have hb_2 := hb_2.sub s14;have hb_3 := hb_3.sub s14;have hb_5 := hb_5.sub s14;have hR0 := hR0.sub s14;have SA := SA.trans s14;have hb_6 := hb_6.sub s14;have hb_7 := hb_7.sub s14;refine RL.eS (.not rfl) ?_;refine RL.eS (.pick_f rfl rfl) ?_;refine RL.nil (RC.back ?_);refine RC.cond_f rfl ?_;refine RC.skip (RC.back (RC.seq (RC.seq (RC.region rfl ?_))));refine RL.mvS rfl ?_;refine RL.eS (.bin rfl rfl rfl) ?_;refine RL.nil (RC.back ?_);refine RC.cond_dec rfl (fun h15 => ?_) (fun h15 => ?_)
  ·
    have g44 : ¬ e = 0 := h15
    have hno : ¬ (rightM f ∧ okP o) := (fun h => g44 (hy h).2.2)
    refine RC.seq (RC.region rfl ?_);refine RL.eS (.loadR (_) sh31 rfl hb_7.row rfl) ?_;refine RL.eS (.as (v' := .agg res0.cells.toArray) (.buildS ze31 pl31 rfl rfl) (by rfl)) ?_;refine RL.eS (.as (v' := .bool true) (.eqS (xs := r2.cells) (ys := res0.cells) fk31 eg31 sh31 rfl rfl rfl rfl rfl) (congrArg Value.bool (eqL_res _ _ (hn hno).2.1))) ?_;refine RL.asS rfl ?_;refine RL.nil (RC.back ?_);refine RC.d1 4 rfl rfl rfl ?_
    exact ⟨rfl, S⟩
  ·
    have g44 : e = 0 := Decidable.not_not.1 h15
    have gok : rightM f ∧ okP o := (Classical.byContradiction fun h => by have := (hn h).2.2; omega)
    obtain ⟨e1, e2, e3⟩ := hy gok
    refine RC.skip (RC.back (RC.seq (RC.region rfl ?_)));refine RL.eS (.loadR ([.int .i64 o.box, .int .i64 o.kind, .int .i64 o.a, .int .i64 o.b]) sh27 rfl hb_3.row rfl) ?_;refine RL.call rfl ok8 (c_ref13Reads o w13) rfl rfl ?_;rintro _ w16 ⟨rfl, s17⟩;have S := S.trans s17;have hF0 := hF0.sub s17;have hb_2 := hb_2.sub s17;have hb_3 := hb_3.sub s17;have hb_5 := hb_5.sub s17;have hR0 := hR0.sub s17;have SA := SA.trans s17;have hb_6 := hb_6.sub s17;have hb_7 := hb_7.sub s17;refine RL.eS (.not_dec rfl) ?_;refine RL.mvS rfl ?_;refine RL.split 51 rfl (fun h18 => ?_) (fun h18 => ?_)
    ·
      refine RL.eS (.field0 fo31_0 rfl) ?_;refine RL.eS (.load1 sh29 rfl (hb_7.cell rfl)) ?_;refine RL.eS (.bin rfl rfl rfl) ?_;refine RL.eS (.pick_t rfl rfl) ?_;refine RL.mvS rfl ?_;refine RL.split 56 rfl (fun h19 => ?_) (fun h19 => ?_)
      ·
        refine RL.offs 3 rfl ?_;refine RL.eS (.pick_t rfl rfl) ?_;refine RL.asS rfl ?_;refine RL.nil (RC.back ?_);refine RC.d1 4 rfl rfl rfl ?_
        exact ⟨rfl, S⟩
      ·
        have hq : readsP o ∨ ¬ (doM f o).2.e = 0 := .inr (e2 ▸ h19)
        refine RL.eS (.loadR (_) sh25 rfl hb_6.row rfl) ?_;refine RL.eS (.loadR (_) sh25 rfl hb_5.row rfl) ?_;refine RL.call rfl ok6 (FC.yes (c_refMSame p' r1 hs' ⟨a1, c1, a2, c2, a3, c3, a4, c4⟩ f hS0 w16 (hM'.sub SA) hR0.now) (sameM_of (e1.trans (reads_same hq)))) rfl rfl ?_;rintro _ w20 ⟨rfl, s21⟩;have S := S.trans s21;have hF0 := hF0.sub s21;have hb_2 := hb_2.sub s21;have hb_3 := hb_3.sub s21;have hb_5 := hb_5.sub s21;have hR0 := hR0.sub s21;have SA := SA.trans s21;have hb_6 := hb_6.sub s21;have hb_7 := hb_7.sub s21;refine RL.eS (.pick_f rfl rfl) ?_;refine RL.asS rfl ?_;refine RL.nil (RC.back ?_);refine RC.d1 4 rfl rfl rfl ?_
        exact ⟨rfl, S⟩
    ·
      have hq : readsP o ∨ ¬ (doM f o).2.e = 0 := .inl (Decidable.not_not.1 h18)
      refine RL.offs 3 rfl ?_;refine RL.eS (.pick_f rfl rfl) ?_;refine RL.mvS rfl ?_;refine RL.eS (.loadR (_) sh25 rfl hb_6.row rfl) ?_;refine RL.eS (.loadR (_) sh25 rfl hb_5.row rfl) ?_;refine RL.call rfl ok6 (FC.yes (c_refMSame p' r1 hs' ⟨a1, c1, a2, c2, a3, c3, a4, c4⟩ f hS0 w16 (hM'.sub SA) hR0.now) (sameM_of (e1.trans (reads_same hq)))) rfl rfl ?_;rintro _ w22 ⟨rfl, s23⟩;have S := S.trans s23;have hF0 := hF0.sub s23;have hb_2 := hb_2.sub s23;have hb_3 := hb_3.sub s23;have hb_5 := hb_5.sub s23;have hR0 := hR0.sub s23;have SA := SA.trans s23;have hb_6 := hb_6.sub s23;have hb_7 := hb_7.sub s23;refine RL.eS (.pick_f rfl rfl) ?_;refine RL.asS rfl ?_;refine RL.nil (RC.back ?_);refine RC.d1 4 rfl rfl rfl ?_
      exact ⟨rfl, S⟩
end Go.Proofs.Ytfkanamdlndkfaa
