/-
  The package model: Do and Same; the reference's Do and Same.
-/
import Derived.Test.YtjafbffehmombaaModelE
import Derived.Test.YtjafbffehmombaaSame
set_option linter.unusedVariables false
set_option linter.unusedSimpArgs false
namespace Go.Proofs.Ytjafbffehmombaa
open Go Go.XL

theorem _root_.Go.XL.Has.is {w : World} {b : Nat} {cs : List Value} {e : TypeId} (h : Has w b cs e) (cs' : List Value) (hc : cs = cs') : Has w b cs' e := hc ▸ h
def p0 : Ph := ⟨none, 0, none, 0, none, 0, none, 0⟩
def m0 : Mo := ⟨[], [], [], []⟩
def res0 : ResT := ⟨0, 0, 0⟩
theorem m0_S : MoS p0 m0 := ⟨Nat.le_refl _, Nat.le_refl _, Nat.le_refl _, Nat.le_refl _, Nat.zero_le _, Nat.zero_le _, Nat.zero_le _, Nat.zero_le _⟩
theorem m0_F (M : Nat → Prop) {w : World} (h : ∀ k, M k → k < w.heap.size) : Ft M (fun u => MoR u p0 m0) w := ⟨h, fun u _ => ⟨Sl.nil _ _ _, Sl.nil _ _ _, Sl.nil _ _ _, Sl.nil _ _ _⟩⟩
/-- an answer: what the containers hold then, what is told, and whether it was refused -/
def AnsDo (M : Nat → Prop) (w w' : World) (m : Mo) (o : OpT) (u : Value) : Prop :=
  Sub w w' ∧ ∃ p' M', u = .tuple #[moV p' (if pB (rightM m ∧ okP o) then (doM m o).1 else m0), .agg (if pB (rightM m ∧ okP o) then (doM m o).2 else res0).cells.toArray, .int .i64 (if pB (rightM m ∧ okP o) then 0 else 1)] ∧ MoS p' (if pB (rightM m ∧ okP o) then (doM m o).1 else m0) ∧ Ft M' (fun u => MoR u p' (if pB (rightM m ∧ okP o) then (doM m o).1 else m0)) w' ∧ Up M w M'
theorem ansDo_yes {M : Nat → Prop} {w w' : World} {m : Mo} {o : OpT} {p' : Ph} {M' : Nat → Prop} {u : Value} (S : Sub w w') (h : rightM m ∧ okP o) (hu : u = .tuple #[moV p' (doM m o).1, .agg (doM m o).2.cells.toArray, .int .i64 0]) (hs : MoS p' (doM m o).1) (hF : Ft M' (fun u => MoR u p' (doM m o).1) w') (hup : Up M w M') : AnsDo M w w' m o u := by
  refine ⟨S, p', M', ?_⟩
  rw [pB_yes h]
  exact ⟨hu, hs, hF, hup⟩
theorem ansDo_no {M : Nat → Prop} {w w' : World} {m : Mo} {o : OpT} {u : Value} {I : World → Prop} (S : Sub w w') (hF : Ft M I w) (h : ¬ (rightM m ∧ okP o)) (hu : u = .tuple #[moV p0 m0, .agg res0.cells.toArray, .int .i64 1]) : AnsDo M w w' m o u := by
  refine ⟨S, p0, M, ?_⟩
  rw [pB_no h]
  exact ⟨hu, m0_S, m0_F M (fun k hk => Nat.lt_of_lt_of_le (hF.lt k hk) S.size), Up.refl _ _⟩
theorem c_Do (p : Ph) (m : Mo) (hs : MoS p m) (o : OpT) (w : World) (M : Nat → Prop) (hF : Ft M (fun u => MoR u p m) w) :
    FC Try.prog 20 [moV p m, .agg o.cells.toArray] w (fun u w' => AnsDo M w w' m o u) := by
  have hF0 := hF
  refine FC.intro Try.func20 rfl Try.ntmps20 rfl ?_
  have S := Sub.refl w
  refine RC.seq ?_
  refine RC.region rfl ?_
  refine RL.box rfl rfl rfl (fun b_2 w_2 e_2 z_2 hb_2 s_2 => ?_)
  have ge_2 := S.le e_2
  have d_hF_b_2 := hF.neNew e_2
  have S := S.trans s_2
  have hF := hF.sub s_2
  have hb_2 : Has w_2 b_2 ([.slice p.a1 m.map.length p.c1, .slice p.a2 m.tab.length p.c2, .slice p.a3 m.row.length p.c3, .slice p.a4 m.heap.length p.c4]) _ := hb_2
  refine RL.box rfl rfl rfl (fun b_3 w_3 e_3 z_3 hb_3 s_3 => ?_)
  have ge_3 := S.le e_3
  have n_2__3 := hb_2.ne e_3
  have d_hF_b_3 := hF.neNew e_3
  have S := S.trans s_3
  have hF := hF.sub s_3
  have hb_2 := hb_2.sub s_3
  have hb_3 : Has w_3 b_3 ([.int .i64 o.box, .int .i64 o.kind, .int .i64 o.a, .int .i64 o.b]) _ := hb_3
  refine RL.alloc ze25 rfl rfl (fun b_4 w_4 e_4 z_4 hb_4 s_4 => ?_)
  have ge_4 := S.le e_4
  have n_2__4 := hb_2.ne e_4
  have n_3__4 := hb_3.ne e_4
  have d_hF_b_4 := hF.neNew e_4
  have S := S.trans s_4
  have hF := hF.sub s_4
  have hb_2 := hb_2.sub s_4
  have hb_3 := hb_3.sub s_4
  refine RL.alloc ze39 rfl rfl (fun b_5 w_5 e_5 z_5 hb_5 s_5 => ?_)
  have ge_5 := S.le e_5
  have n_2__5 := hb_2.ne e_5
  have n_3__5 := hb_3.ne e_5
  have n_4__5 := hb_4.ne e_5
  have d_hF_b_5 := hF.neNew e_5
  have S := S.trans s_5
  have hF := hF.sub s_5
  have hb_2 := hb_2.sub s_5
  have hb_3 := hb_3.sub s_5
  have hb_4 := hb_4.sub s_5
  refine RL.ev (.assign rfl) rfl rfl ?_
  refine RL.nil (RC.back ?_)
  refine RC.seq ?_
  refine RC.seq ?_
  refine RC.region rfl ?_
  refine RL.ev (.loadR ([.slice p.a1 m.map.length p.c1, .slice p.a2 m.tab.length p.c2, .slice p.a3 m.row.length p.c3, .slice p.a4 m.heap.length p.c4]) sh25 rfl hb_2.row rfl) rfl rfl ?_
  refine RL.call rfl ok19 (c_right p m hs w_5 hF.now) rfl rfl ?_
  rintro _ w1 ⟨rfl, s2⟩
  have S := S.trans s2
  have hF := hF.sub s2
  have hb_2 := hb_2.sub s2
  have hb_3 := hb_3.sub s2
  have hb_4 := hb_4.sub s2
  have hb_5 := hb_5.sub s2
  refine RL.ev (.not rfl) rfl rfl ?_
  refine RL.ev (.move rfl) rfl rfl ?_
  refine RL.splitB 11 rfl (fun h3 => ?_) (fun h3 => ?_)
  ·
    have g11 : ¬ rightM m := (fun e => by rw [pB_yes e] at h3; cases h3)
    refine RL.off rfl rfl ?_
    refine RL.off rfl rfl ?_
    refine RL.off rfl rfl ?_
    refine RL.ev (.pick_t rfl rfl) rfl rfl ?_
    refine RL.nil (RC.back ?_)
    refine RC.cond_t rfl ?_
    refine RC.seq ?_
    refine RC.region rfl ?_
    refine RL.ev (.as (v' := .agg #[.slice none 0 0, .slice none 0 0, .slice none 0 0, .slice none 0 0]) (.buildS ze25 pl25 rfl rfl) (by kernel_rfl)) rfl rfl ?_
    refine RL.ev (.as (v' := .agg #[.int .i64 0, .int .i64 0, .int .i64 0]) (.buildS ze39 pl39 rfl rfl) (by kernel_rfl)) rfl rfl ?_
    refine RL.store sh25 rfl rfl rfl hb_4 (by exact Nat.le_of_ble_eq_true rfl) (by rfl) rfl (fun w4 z4 hb_4 a4 => ?_)
    have S := S.upd a4 ge_4
    have hF := hF.updD a4 d_hF_b_4
    have hb_2 := hb_2.upd a4 n_2__4
    have hb_3 := hb_3.upd a4 n_3__4
    have hb_5 := hb_5.upd a4 n_4__5.symm
    have hb_4 : Has w4 b_4 ([.slice none 0 0, .slice none 0 0, .slice none 0 0, .slice none 0 0]) _ := hb_4.now (by kernel_rfl)
    refine RL.store sh39 rfl rfl rfl hb_5 (by exact Nat.le_of_ble_eq_true rfl) (by rfl) rfl (fun w5 z5 hb_5 a5 => ?_)
    have S := S.upd a5 ge_5
    have hF := hF.updD a5 d_hF_b_5
    have hb_2 := hb_2.upd a5 n_2__5
    have hb_3 := hb_3.upd a5 n_3__5
    have hb_4 := hb_4.upd a5 n_4__5
    have hb_5 : Has w5 b_5 ([.int .i64 0, .int .i64 0, .int .i64 0]) _ := hb_5.now (by kernel_rfl)
    refine RL.ev (.assign rfl) rfl rfl ?_
    refine RL.nil (RC.back ?_)
    refine RC.done (rs := [.cell 4 25, .cell 5 39, .tmp 6]) (vs := [_, _, _]) rfl rfl ⟨⟨_, rfl, .inr ⟨[.slice none 0 0, .slice none 0 0, .slice none 0 0, .slice none 0 0], sh25, hb_4.row, rfl⟩⟩, ⟨_, rfl, .inr ⟨[.int .i64 0, .int .i64 0, .int .i64 0], sh39, hb_5.row, rfl⟩⟩, rfl, trivial⟩ ?_
    -- end 1
    exact ansDo_no S hF0 (fun e => g11 e.1) rfl
  ·
    have g11 : rightM m := (by have q := h3; rw [Bool.not_eq_false'] at q; exact pB_iff.1 q)
    refine RL.ev (.loadR ([.int .i64 o.box, .int .i64 o.kind, .int .i64 o.a, .int .i64 o.b]) sh34 rfl hb_3.row rfl) rfl rfl ?_
    refine RL.call rfl ok25 (c_opRight o w1) rfl rfl ?_
    rintro _ w6 ⟨rfl, s7⟩
    have S := S.trans s7
    have hF := hF.sub s7
    have hb_2 := hb_2.sub s7
    have hb_3 := hb_3.sub s7
    have hb_4 := hb_4.sub s7
    have hb_5 := hb_5.sub s7
    refine RL.ev (.not rfl) rfl rfl ?_
    refine RL.ev (.pick_f rfl rfl) rfl rfl ?_
    refine RL.nil (RC.back ?_)
    refine RC.cond rfl (fun h8 => ?_) (fun h8 => ?_)
    ·
      have g15 : ¬ (rightM m ∧ okP o) := (fun e => by have q := h8; simp [e.2] at q)
      refine RC.seq ?_
      refine RC.region rfl ?_
      refine RL.ev (.as (v' := .agg #[.slice none 0 0, .slice none 0 0, .slice none 0 0, .slice none 0 0]) (.buildS ze25 pl25 rfl rfl) (by kernel_rfl)) rfl rfl ?_
      refine RL.ev (.as (v' := .agg #[.int .i64 0, .int .i64 0, .int .i64 0]) (.buildS ze39 pl39 rfl rfl) (by kernel_rfl)) rfl rfl ?_
      refine RL.store sh25 rfl rfl rfl hb_4 (by exact Nat.le_of_ble_eq_true rfl) (by rfl) rfl (fun w9 z9 hb_4 a9 => ?_)
      have S := S.upd a9 ge_4
      have hF := hF.updD a9 d_hF_b_4
      have hb_2 := hb_2.upd a9 n_2__4
      have hb_3 := hb_3.upd a9 n_3__4
      have hb_5 := hb_5.upd a9 n_4__5.symm
      have hb_4 : Has w9 b_4 ([.slice none 0 0, .slice none 0 0, .slice none 0 0, .slice none 0 0]) _ := hb_4.now (by kernel_rfl)
      refine RL.store sh39 rfl rfl rfl hb_5 (by exact Nat.le_of_ble_eq_true rfl) (by rfl) rfl (fun w10 z10 hb_5 a10 => ?_)
      have S := S.upd a10 ge_5
      have hF := hF.updD a10 d_hF_b_5
      have hb_2 := hb_2.upd a10 n_2__5
      have hb_3 := hb_3.upd a10 n_3__5
      have hb_4 := hb_4.upd a10 n_4__5
      have hb_5 : Has w10 b_5 ([.int .i64 0, .int .i64 0, .int .i64 0]) _ := hb_5.now (by kernel_rfl)
      refine RL.ev (.assign rfl) rfl rfl ?_
      refine RL.nil (RC.back ?_)
      refine RC.done (rs := [.cell 4 25, .cell 5 39, .tmp 6]) (vs := [_, _, _]) rfl rfl ⟨⟨_, rfl, .inr ⟨[.slice none 0 0, .slice none 0 0, .slice none 0 0, .slice none 0 0], sh25, hb_4.row, rfl⟩⟩, ⟨_, rfl, .inr ⟨[.int .i64 0, .int .i64 0, .int .i64 0], sh39, hb_5.row, rfl⟩⟩, rfl, trivial⟩ ?_
      -- end 2
      exact ansDo_no S hF0 g15 rfl
    ·
      have g15 : okP o := (by have q := h8; simpa using q)
      refine RC.skip (RC.back ?_)
      refine RC.seq ?_
      refine RC.region rfl ?_
      refine RL.ev (.loadR ([.slice p.a1 m.map.length p.c1, .slice p.a2 m.tab.length p.c2, .slice p.a3 m.row.length p.c3, .slice p.a4 m.heap.length p.c4]) sh25 rfl hb_2.row rfl) rfl rfl ?_
      refine RL.ev (.loadR ([.int .i64 o.box, .int .i64 o.kind, .int .i64 o.a, .int .i64 o.b]) sh34 rfl hb_3.row rfl) rfl rfl ?_
      refine RL.call rfl ok26 (c_do p m hs g11 o g15 w6 M hF) rfl rfl ?_
      rintro _ w11 ⟨s12, p', M', rfl, hs', hF', hup⟩
      have d_hF'_b_2 := upNe hup d_hF_b_2 hb_2.lt
      have d_hF'_b_3 := upNe hup d_hF_b_3 hb_3.lt
      have d_hF'_b_4 := upNe hup d_hF_b_4 hb_4.lt
      have d_hF'_b_5 := upNe hup d_hF_b_5 hb_5.lt
      have hup := hup.le S.size
      have S := S.trans s12
      have hF := hF.sub s12
      have hb_2 := hb_2.sub s12
      have hb_3 := hb_3.sub s12
      have hb_4 := hb_4.sub s12
      have hb_5 := hb_5.sub s12
      refine RL.ev (.move rfl) rfl rfl ?_
      refine RL.ev (.extract rfl rfl) rfl rfl ?_
      refine RL.ev (.extract rfl rfl) rfl rfl ?_
      refine RL.alloc ze39 rfl rfl (fun b_7 w_7 e_7 z_7 hb_7 s_7 => ?_)
      have ge_7 := S.le e_7
      have n_2__7 := hb_2.ne e_7
      have n_3__7 := hb_3.ne e_7
      have n_4__7 := hb_4.ne e_7
      have n_5__7 := hb_5.ne e_7
      have d_hF'_b_7 := hF'.neNew e_7
      have S := S.trans s_7
      have hb_2 := hb_2.sub s_7
      have hb_3 := hb_3.sub s_7
      have hb_4 := hb_4.sub s_7
      have hb_5 := hb_5.sub s_7
      have hF' := hF'.sub s_7
      refine RL.store sh25 rfl rfl rfl hb_2 (by exact Nat.le_of_ble_eq_true rfl) (by rfl) rfl (fun w13 z13 hb_2 a13 => ?_)
      have S := S.upd a13 ge_2
      have hb_3 := hb_3.upd a13 n_2__3.symm
      have hb_4 := hb_4.upd a13 n_2__4.symm
      have hb_5 := hb_5.upd a13 n_2__5.symm
      have hF' := hF'.updD a13 d_hF'_b_2
      have hb_7 := hb_7.upd a13 n_2__7.symm
      have hb_2 : Has w13 b_2 ([.slice p'.a1 (doM m o).1.map.length p'.c1, .slice p'.a2 (doM m o).1.tab.length p'.c2, .slice p'.a3 (doM m o).1.row.length p'.c3, .slice p'.a4 (doM m o).1.heap.length p'.c4]) _ := hb_2.now (by kernel_rfl)
      refine RL.store sh39 rfl rfl rfl hb_7 (by exact Nat.le_of_ble_eq_true rfl) (by rfl) rfl (fun w14 z14 hb_7 a14 => ?_)
      have S := S.upd a14 ge_7
      have hb_2 := hb_2.upd a14 n_2__7
      have hb_3 := hb_3.upd a14 n_3__7
      have hb_4 := hb_4.upd a14 n_4__7
      have hb_5 := hb_5.upd a14 n_5__7
      have hF' := hF'.updD a14 d_hF'_b_7
      have hb_7 : Has w14 b_7 ([.int .i64 (doM m o).2.e, .int .i64 (doM m o).2.a, .int .i64 (doM m o).2.b]) _ := hb_7.now (by kernel_rfl)
      refine RL.nil (RC.back ?_)
      refine RC.seq ?_
      refine RC.drawD (fun k => k = b_4 ∨ k = b_5) [2, 3] w14.heap.size 5 rfl rfl mxo (fun w15 s16 => ?_)
      have hNN : ∀ k, ((k = b_4 ∨ k = b_5) ∨ w14.heap.size ≤ k) → w.heap.size ≤ k := fun k e => e.elim (fun e => e.elim (fun e => e ▸ ge_4) (fun e => e ▸ ge_5)) (fun e => Nat.le_trans S.size e)
      have ent_S := S.size
      have hN0 : ∀ k, w14.heap.size ≤ k → w.heap.size ≤ k := fun k e => Nat.le_trans S.size e
      have ltD_b_2 := hb_2.lt
      have ltD_b_3 := hb_3.lt
      have ltD_b_4 := hb_4.lt
      have ltD_b_5 := hb_5.lt
      have ltD_hF' := fun k hk => (hF'.ge k hk).2
      have ltD_b_7 := hb_7.lt
      have szD := Nat.le_refl w14.heap.size
      have S := S.trans s16
      have hb_2 := hb_2.sub s16
      have hb_3 := hb_3.sub s16
      have hb_4 := hb_4.sub s16
      have hb_5 := hb_5.sub s16
      have hF' := hF'.sub s16
      have hb_7 := hb_7.sub s16
      have szD := Nat.le_trans szD s16.size
      refine RD.take 0 rfl (by kernel_rfl) (by kernel_rfl) (by kernel_rfl) (fun w' s' => .loadR ([.slice p'.a1 (doM m o).1.map.length p'.c1, .slice p'.a2 (doM m o).1.tab.length p'.c2, .slice p'.a3 (doM m o).1.row.length p'.c3, .slice p'.a4 (doM m o).1.heap.length p'.c4]) sh25 rfl (hb_2.step s' (fun e => e.elim (fun e => e.elim (fun e => n_2__4 e) (fun e => n_2__5 e)) (fun e => Nat.not_le.2 ltD_b_2 e))).row rfl) rfl rfl ?_
      refine RD.take 1 rfl (by kernel_rfl) (by kernel_rfl) (by kernel_rfl) (fun w' s' => .loadR ([.int .i64 (doM m o).2.e, .int .i64 (doM m o).2.a, .int .i64 (doM m o).2.b]) sh39 rfl (hb_7.step s' (fun e => e.elim (fun e => e.elim (fun e => n_4__7.symm e) (fun e => n_5__7.symm e)) (fun e => Nat.not_le.2 ltD_b_7 e))).row rfl) rfl rfl ?_
      refine RD.all [2] (by kernel_rfl) rfl (RDs.cons rfl ?_ (RDs.nil))
      refine RL.store sh25 rfl rfl rfl hb_4 (by exact Nat.le_of_ble_eq_true rfl) (by rfl) rfl (fun w17 z17 hb_4 a17 => ?_)
      have S := S.upd a17 ge_4
      have hb_2 := hb_2.upd a17 n_2__4
      have hb_3 := hb_3.upd a17 n_3__4
      have hb_5 := hb_5.upd a17 n_4__5.symm
      have hF' := hF'.updD a17 d_hF'_b_4
      have hb_7 := hb_7.upd a17 n_4__7.symm
      have szD := Nat.le_trans szD a17.size
      have hb_4 : Has w17 b_4 ([.slice p'.a1 (doM m o).1.map.length p'.c1, .slice p'.a2 (doM m o).1.tab.length p'.c2, .slice p'.a3 (doM m o).1.row.length p'.c3, .slice p'.a4 (doM m o).1.heap.length p'.c4]) _ := hb_4.now (by kernel_rfl)
      refine RD.backW rfl (a17.mono fun k _ e => e ▸ (.inl (.inl rfl))) ?_
      refine RD.all [3] (by kernel_rfl) rfl (RDs.cons rfl ?_ (RDs.nil))
      refine RL.store sh39 rfl rfl rfl hb_5 (by exact Nat.le_of_ble_eq_true rfl) (by rfl) rfl (fun w18 z18 hb_5 a18 => ?_)
      have S := S.upd a18 ge_5
      have hb_2 := hb_2.upd a18 n_2__5
      have hb_3 := hb_3.upd a18 n_3__5
      have hb_4 := hb_4.upd a18 n_4__5
      have hF' := hF'.updD a18 d_hF'_b_5
      have hb_7 := hb_7.upd a18 n_5__7.symm
      have szD := Nat.le_trans szD a18.size
      have hb_5 : Has w18 b_5 ([.int .i64 (doM m o).2.e, .int .i64 (doM m o).2.a, .int .i64 (doM m o).2.b]) _ := hb_5.now (by kernel_rfl)
      refine RD.backW rfl (a18.mono fun k _ e => e ▸ (.inl (.inr (rfl)))) ?_
      refine RD.take 4 rfl (by kernel_rfl) (by kernel_rfl) (by kernel_rfl) (fun w' s' => .assign rfl) rfl rfl ?_
      refine RD.done (by kernel_rfl) (RC.back ?_)
      refine RC.done (rs := [.cell 4 25, .cell 5 39, .tmp 6]) (vs := [_, _, _]) rfl rfl ⟨⟨_, rfl, .inr ⟨[.slice p'.a1 (doM m o).1.map.length p'.c1, .slice p'.a2 (doM m o).1.tab.length p'.c2, .slice p'.a3 (doM m o).1.row.length p'.c3, .slice p'.a4 (doM m o).1.heap.length p'.c4], sh25, hb_4.row, rfl⟩⟩, ⟨_, rfl, .inr ⟨[.int .i64 (doM m o).2.e, .int .i64 (doM m o).2.a, .int .i64 (doM m o).2.b], sh39, hb_5.row, rfl⟩⟩, rfl, trivial⟩ ?_
      -- end 3
      exact ansDo_yes S ⟨g11, g15⟩ rfl hs' hF' hup
theorem c_MSame (p : Ph) (m : Mo) (hs : MoS p m) (q : Ph) (n : Mo) (ht : MoS q n) (w : World) (hm : MoR w p m) (hn : MoR w q n) :
    FC Try.prog 22 [moV p m, moV q n] w (Val (.bool (decide (m.map = n.map ∧ m.tab = n.tab ∧ m.row = n.row ∧ m.heap = n.heap))) w) := by
  have l1 := hs.l1
  have l2 := hs.l2
  have l3 := hs.l3
  have l4 := hs.l4
  refine FC.intro Try.func22 rfl Try.ntmps22 rfl ?_
  have S := Sub.refl w
  refine RC.seq ?_
  refine RC.region rfl ?_
  refine RL.box rfl rfl rfl (fun b_2 w_2 e_2 z_2 hb_2 s_2 => ?_)
  have ge_2 := S.le e_2
  have S := S.trans s_2
  have hb_2 : Has w_2 b_2 ([.slice p.a1 m.map.length p.c1, .slice p.a2 m.tab.length p.c2, .slice p.a3 m.row.length p.c3, .slice p.a4 m.heap.length p.c4]) _ := hb_2
  refine RL.box rfl rfl rfl (fun b_3 w_3 e_3 z_3 hb_3 s_3 => ?_)
  have ge_3 := S.le e_3
  have n_2__3 := hb_2.ne e_3
  have S := S.trans s_3
  have hb_2 := hb_2.sub s_3
  have hb_3 : Has w_3 b_3 ([.slice q.a1 n.map.length q.c1, .slice q.a2 n.tab.length q.c2, .slice q.a3 n.row.length q.c3, .slice q.a4 n.heap.length q.c4]) _ := hb_3
  refine RL.ev (.assign rfl) rfl rfl ?_
  refine RL.nil (RC.back ?_)
  refine RC.seq ?_
  refine RC.region rfl ?_
  refine RL.ev (.field0 fo25_0 rfl) rfl rfl ?_
  refine RL.ev (.load1 sh22 rfl (hb_2.cell rfl)) rfl rfl ?_
  refine RL.ev (.field0 fo25_0 rfl) rfl rfl ?_
  refine RL.ev (.load1 sh22 rfl (hb_3.cell rfl)) rfl rfl ?_
  refine RL.call rfl ok45 (c_equal m.map n.map p.a1 q.a1 p.c1 q.c1 _ _ rfl rfl w_3 (hm.sub S).h1 (hn.sub S).h1 (by omega)) rfl rfl ?_
  rintro _ w1 ⟨rfl, s2⟩
  have S := S.trans s2
  have hb_2 := hb_2.sub s2
  have hb_3 := hb_3.sub s2
  refine RL.ev (.move rfl) rfl rfl ?_
  refine RL.split 10 rfl (fun h3 => ?_) (fun h3 => ?_)
  ·
    have g10 : m.map = n.map := h3
    refine RL.ev (.field0 fo25_1 rfl) rfl rfl ?_
    refine RL.ev (.load1 sh22 rfl (hb_2.cell rfl)) rfl rfl ?_
    refine RL.ev (.field0 fo25_1 rfl) rfl rfl ?_
    refine RL.ev (.load1 sh22 rfl (hb_3.cell rfl)) rfl rfl ?_
    refine RL.call rfl ok45 (c_equal m.tab n.tab p.a2 q.a2 p.c2 q.c2 _ _ rfl rfl w1 (hm.sub S).h2 (hn.sub S).h2 (by omega)) rfl rfl ?_
    rintro _ w4 ⟨rfl, s5⟩
    have S := S.trans s5
    have hb_2 := hb_2.sub s5
    have hb_3 := hb_3.sub s5
    refine RL.ev (.pick_t rfl rfl) rfl rfl ?_
    refine RL.ev (.move rfl) rfl rfl ?_
    refine RL.split 17 rfl (fun h6 => ?_) (fun h6 => ?_)
    ·
      have g17 : m.tab = n.tab := h6
      refine RL.ev (.field0 fo25_2 rfl) rfl rfl ?_
      refine RL.ev (.load1 sh23 rfl (hb_2.cell rfl)) rfl rfl ?_
      refine RL.ev (.field0 fo25_2 rfl) rfl rfl ?_
      refine RL.ev (.load1 sh23 rfl (hb_3.cell rfl)) rfl rfl ?_
      refine RL.call rfl ok46 (c_equal11 m.row n.row p.a3 q.a3 p.c3 q.c3 _ _ rfl rfl w4 (hm.sub S).h3 (hn.sub S).h3 (by omega)) rfl rfl ?_
      rintro _ w7 ⟨rfl, s8⟩
      have S := S.trans s8
      have hb_2 := hb_2.sub s8
      have hb_3 := hb_3.sub s8
      refine RL.ev (.pick_t rfl rfl) rfl rfl ?_
      refine RL.ev (.move rfl) rfl rfl ?_
      refine RL.split 24 rfl (fun h9 => ?_) (fun h9 => ?_)
      ·
        have g24 : m.row = n.row := h9
        refine RL.ev (.field0 fo25_3 rfl) rfl rfl ?_
        refine RL.ev (.load1 sh22 rfl (hb_2.cell rfl)) rfl rfl ?_
        refine RL.ev (.field0 fo25_3 rfl) rfl rfl ?_
        refine RL.ev (.load1 sh22 rfl (hb_3.cell rfl)) rfl rfl ?_
        refine RL.call rfl ok45 (c_equal m.heap n.heap p.a4 q.a4 p.c4 q.c4 _ _ rfl rfl w7 (hm.sub S).h4 (hn.sub S).h4 (by omega)) rfl rfl ?_
        rintro _ w10 ⟨rfl, s11⟩
        have S := S.trans s11
        have hb_2 := hb_2.sub s11
        have hb_3 := hb_3.sub s11
        refine RL.ev (.pick_t rfl rfl) rfl rfl ?_
        refine RL.ev (.assign rfl) rfl rfl ?_
        refine RL.nil (RC.back ?_)
        refine RC.done (rs := [.tmp 4]) (vs := [_]) rfl rfl ⟨rfl, trivial⟩ ?_
        -- end 1
        refine ⟨congrArg Value.bool ?_, S⟩
        first | exact (decide_eq_false (fun e => g10 e.1)).symm | exact (decide_eq_false (fun e => g17 e.2.1)).symm | exact (decide_eq_false (fun e => g24 e.2.2.1)).symm | exact decide_eq_decide.2 ⟨fun h => ⟨g10, g17, g24, h⟩, fun h => h.2.2.2⟩
      ·
        have g24 : ¬ m.row = n.row := h9
        refine RL.off rfl rfl ?_
        refine RL.off rfl rfl ?_
        refine RL.off rfl rfl ?_
        refine RL.off rfl rfl ?_
        refine RL.off rfl rfl ?_
        refine RL.ev (.pick_f rfl rfl) rfl rfl ?_
        refine RL.ev (.assign rfl) rfl rfl ?_
        refine RL.nil (RC.back ?_)
        refine RC.done (rs := [.tmp 4]) (vs := [_]) rfl rfl ⟨rfl, trivial⟩ ?_
        -- end 2
        refine ⟨congrArg Value.bool ?_, S⟩
        first | exact (decide_eq_false (fun e => g10 e.1)).symm | exact (decide_eq_false (fun e => g17 e.2.1)).symm | exact (decide_eq_false (fun e => g24 e.2.2.1)).symm | exact decide_eq_decide.2 ⟨fun h => ⟨g10, g17, g24, h⟩, fun h => h.2.2.2⟩
    ·
      have g17 : ¬ m.tab = n.tab := h6
      refine RL.off rfl rfl ?_
      refine RL.off rfl rfl ?_
      refine RL.off rfl rfl ?_
      refine RL.off rfl rfl ?_
      refine RL.off rfl rfl ?_
      refine RL.ev (.pick_f rfl rfl) rfl rfl ?_
      refine RL.ev (.move rfl) rfl rfl ?_
      refine RL.off rfl rfl ?_
      refine RL.off rfl rfl ?_
      refine RL.off rfl rfl ?_
      refine RL.off rfl rfl ?_
      refine RL.off rfl rfl ?_
      refine RL.ev (.pick_f rfl rfl) rfl rfl ?_
      refine RL.ev (.assign rfl) rfl rfl ?_
      refine RL.nil (RC.back ?_)
      refine RC.done (rs := [.tmp 4]) (vs := [_]) rfl rfl ⟨rfl, trivial⟩ ?_
      -- end 3
      refine ⟨congrArg Value.bool ?_, S⟩
      first | exact (decide_eq_false (fun e => g10 e.1)).symm | exact (decide_eq_false (fun e => g17 e.2.1)).symm | exact (decide_eq_false (fun e => g24 e.2.2.1)).symm | exact decide_eq_decide.2 ⟨fun h => ⟨g10, g17, g24, h⟩, fun h => h.2.2.2⟩
  ·
    have g10 : ¬ m.map = n.map := h3
    refine RL.off rfl rfl ?_
    refine RL.off rfl rfl ?_
    refine RL.off rfl rfl ?_
    refine RL.off rfl rfl ?_
    refine RL.off rfl rfl ?_
    refine RL.ev (.pick_f rfl rfl) rfl rfl ?_
    refine RL.ev (.move rfl) rfl rfl ?_
    refine RL.off rfl rfl ?_
    refine RL.off rfl rfl ?_
    refine RL.off rfl rfl ?_
    refine RL.off rfl rfl ?_
    refine RL.off rfl rfl ?_
    refine RL.ev (.pick_f rfl rfl) rfl rfl ?_
    refine RL.ev (.move rfl) rfl rfl ?_
    refine RL.off rfl rfl ?_
    refine RL.off rfl rfl ?_
    refine RL.off rfl rfl ?_
    refine RL.off rfl rfl ?_
    refine RL.off rfl rfl ?_
    refine RL.ev (.pick_f rfl rfl) rfl rfl ?_
    refine RL.ev (.assign rfl) rfl rfl ?_
    refine RL.nil (RC.back ?_)
    refine RC.done (rs := [.tmp 4]) (vs := [_]) rfl rfl ⟨rfl, trivial⟩ ?_
    -- end 4
    refine ⟨congrArg Value.bool ?_, S⟩
    first | exact (decide_eq_false (fun e => g10 e.1)).symm | exact (decide_eq_false (fun e => g17 e.2.1)).symm | exact (decide_eq_false (fun e => g24 e.2.2.1)).symm | exact decide_eq_decide.2 ⟨fun h => ⟨g10, g17, g24, h⟩, fun h => h.2.2.2⟩
theorem c_refMSame (p : Ph) (m : Mo) (hs : MoS p m) (q : Ph) (n : Mo) (ht : MoS q n) (w : World) (hm : MoR w p m) (hn : MoR w q n) :
    FC Try.prog 17 [moV p m, moV q n] w (Val (.bool (decide (m.map = n.map ∧ m.tab = n.tab ∧ m.row = n.row ∧ m.heap = n.heap))) w) := by
  have l1 := hs.l1
  have l2 := hs.l2
  have l3 := hs.l3
  have l4 := hs.l4
  refine FC.intro Try.func17 rfl Try.ntmps17 rfl ?_
  have S := Sub.refl w
  refine RC.seq ?_
  refine RC.region rfl ?_
  refine RL.box rfl rfl rfl (fun b_2 w_2 e_2 z_2 hb_2 s_2 => ?_)
  have ge_2 := S.le e_2
  have S := S.trans s_2
  have hb_2 : Has w_2 b_2 ([.slice p.a1 m.map.length p.c1, .slice p.a2 m.tab.length p.c2, .slice p.a3 m.row.length p.c3, .slice p.a4 m.heap.length p.c4]) _ := hb_2
  refine RL.box rfl rfl rfl (fun b_3 w_3 e_3 z_3 hb_3 s_3 => ?_)
  have ge_3 := S.le e_3
  have n_2__3 := hb_2.ne e_3
  have S := S.trans s_3
  have hb_2 := hb_2.sub s_3
  have hb_3 : Has w_3 b_3 ([.slice q.a1 n.map.length q.c1, .slice q.a2 n.tab.length q.c2, .slice q.a3 n.row.length q.c3, .slice q.a4 n.heap.length q.c4]) _ := hb_3
  refine RL.ev (.assign rfl) rfl rfl ?_
  refine RL.nil (RC.back ?_)
  refine RC.seq ?_
  refine RC.region rfl ?_
  refine RL.ev (.field0 fo25_0 rfl) rfl rfl ?_
  refine RL.ev (.load1 sh22 rfl (hb_2.cell rfl)) rfl rfl ?_
  refine RL.ev (.field0 fo25_0 rfl) rfl rfl ?_
  refine RL.ev (.load1 sh22 rfl (hb_3.cell rfl)) rfl rfl ?_
  refine RL.call rfl ok33 (c_same m.map n.map p.a1 q.a1 p.c1 q.c1 _ _ rfl rfl w_3 (hm.sub S).h1 (hn.sub S).h1 (by omega)) rfl rfl ?_
  rintro _ w1 ⟨rfl, s2⟩
  have S := S.trans s2
  have hb_2 := hb_2.sub s2
  have hb_3 := hb_3.sub s2
  refine RL.ev (.move rfl) rfl rfl ?_
  refine RL.split 10 rfl (fun h3 => ?_) (fun h3 => ?_)
  ·
    have g10 : m.map = n.map := h3
    refine RL.ev (.field0 fo25_1 rfl) rfl rfl ?_
    refine RL.ev (.load1 sh22 rfl (hb_2.cell rfl)) rfl rfl ?_
    refine RL.ev (.field0 fo25_1 rfl) rfl rfl ?_
    refine RL.ev (.load1 sh22 rfl (hb_3.cell rfl)) rfl rfl ?_
    refine RL.call rfl ok33 (c_same m.tab n.tab p.a2 q.a2 p.c2 q.c2 _ _ rfl rfl w1 (hm.sub S).h2 (hn.sub S).h2 (by omega)) rfl rfl ?_
    rintro _ w4 ⟨rfl, s5⟩
    have S := S.trans s5
    have hb_2 := hb_2.sub s5
    have hb_3 := hb_3.sub s5
    refine RL.ev (.pick_t rfl rfl) rfl rfl ?_
    refine RL.ev (.move rfl) rfl rfl ?_
    refine RL.split 17 rfl (fun h6 => ?_) (fun h6 => ?_)
    ·
      have g17 : m.tab = n.tab := h6
      refine RL.ev (.field0 fo25_2 rfl) rfl rfl ?_
      refine RL.ev (.load1 sh23 rfl (hb_2.cell rfl)) rfl rfl ?_
      refine RL.ev (.field0 fo25_2 rfl) rfl rfl ?_
      refine RL.ev (.load1 sh23 rfl (hb_3.cell rfl)) rfl rfl ?_
      refine RL.call rfl ok34 (c_same11 m.row n.row p.a3 q.a3 p.c3 q.c3 _ _ rfl rfl w4 (hm.sub S).h3 (hn.sub S).h3 (by omega)) rfl rfl ?_
      rintro _ w7 ⟨rfl, s8⟩
      have S := S.trans s8
      have hb_2 := hb_2.sub s8
      have hb_3 := hb_3.sub s8
      refine RL.ev (.pick_t rfl rfl) rfl rfl ?_
      refine RL.ev (.move rfl) rfl rfl ?_
      refine RL.split 24 rfl (fun h9 => ?_) (fun h9 => ?_)
      ·
        have g24 : m.row = n.row := h9
        refine RL.ev (.field0 fo25_3 rfl) rfl rfl ?_
        refine RL.ev (.load1 sh22 rfl (hb_2.cell rfl)) rfl rfl ?_
        refine RL.ev (.field0 fo25_3 rfl) rfl rfl ?_
        refine RL.ev (.load1 sh22 rfl (hb_3.cell rfl)) rfl rfl ?_
        refine RL.call rfl ok33 (c_same m.heap n.heap p.a4 q.a4 p.c4 q.c4 _ _ rfl rfl w7 (hm.sub S).h4 (hn.sub S).h4 (by omega)) rfl rfl ?_
        rintro _ w10 ⟨rfl, s11⟩
        have S := S.trans s11
        have hb_2 := hb_2.sub s11
        have hb_3 := hb_3.sub s11
        refine RL.ev (.pick_t rfl rfl) rfl rfl ?_
        refine RL.ev (.assign rfl) rfl rfl ?_
        refine RL.nil (RC.back ?_)
        refine RC.done (rs := [.tmp 4]) (vs := [_]) rfl rfl ⟨rfl, trivial⟩ ?_
        -- end 1
        refine ⟨congrArg Value.bool ?_, S⟩
        first | exact (decide_eq_false (fun e => g10 e.1)).symm | exact (decide_eq_false (fun e => g17 e.2.1)).symm | exact (decide_eq_false (fun e => g24 e.2.2.1)).symm | exact decide_eq_decide.2 ⟨fun h => ⟨g10, g17, g24, h⟩, fun h => h.2.2.2⟩
      ·
        have g24 : ¬ m.row = n.row := h9
        refine RL.off rfl rfl ?_
        refine RL.off rfl rfl ?_
        refine RL.off rfl rfl ?_
        refine RL.off rfl rfl ?_
        refine RL.off rfl rfl ?_
        refine RL.ev (.pick_f rfl rfl) rfl rfl ?_
        refine RL.ev (.assign rfl) rfl rfl ?_
        refine RL.nil (RC.back ?_)
        refine RC.done (rs := [.tmp 4]) (vs := [_]) rfl rfl ⟨rfl, trivial⟩ ?_
        -- end 2
        refine ⟨congrArg Value.bool ?_, S⟩
        first | exact (decide_eq_false (fun e => g10 e.1)).symm | exact (decide_eq_false (fun e => g17 e.2.1)).symm | exact (decide_eq_false (fun e => g24 e.2.2.1)).symm | exact decide_eq_decide.2 ⟨fun h => ⟨g10, g17, g24, h⟩, fun h => h.2.2.2⟩
    ·
      have g17 : ¬ m.tab = n.tab := h6
      refine RL.off rfl rfl ?_
      refine RL.off rfl rfl ?_
      refine RL.off rfl rfl ?_
      refine RL.off rfl rfl ?_
      refine RL.off rfl rfl ?_
      refine RL.ev (.pick_f rfl rfl) rfl rfl ?_
      refine RL.ev (.move rfl) rfl rfl ?_
      refine RL.off rfl rfl ?_
      refine RL.off rfl rfl ?_
      refine RL.off rfl rfl ?_
      refine RL.off rfl rfl ?_
      refine RL.off rfl rfl ?_
      refine RL.ev (.pick_f rfl rfl) rfl rfl ?_
      refine RL.ev (.assign rfl) rfl rfl ?_
      refine RL.nil (RC.back ?_)
      refine RC.done (rs := [.tmp 4]) (vs := [_]) rfl rfl ⟨rfl, trivial⟩ ?_
      -- end 3
      refine ⟨congrArg Value.bool ?_, S⟩
      first | exact (decide_eq_false (fun e => g10 e.1)).symm | exact (decide_eq_false (fun e => g17 e.2.1)).symm | exact (decide_eq_false (fun e => g24 e.2.2.1)).symm | exact decide_eq_decide.2 ⟨fun h => ⟨g10, g17, g24, h⟩, fun h => h.2.2.2⟩
  ·
    have g10 : ¬ m.map = n.map := h3
    refine RL.off rfl rfl ?_
    refine RL.off rfl rfl ?_
    refine RL.off rfl rfl ?_
    refine RL.off rfl rfl ?_
    refine RL.off rfl rfl ?_
    refine RL.ev (.pick_f rfl rfl) rfl rfl ?_
    refine RL.ev (.move rfl) rfl rfl ?_
    refine RL.off rfl rfl ?_
    refine RL.off rfl rfl ?_
    refine RL.off rfl rfl ?_
    refine RL.off rfl rfl ?_
    refine RL.off rfl rfl ?_
    refine RL.ev (.pick_f rfl rfl) rfl rfl ?_
    refine RL.ev (.move rfl) rfl rfl ?_
    refine RL.off rfl rfl ?_
    refine RL.off rfl rfl ?_
    refine RL.off rfl rfl ?_
    refine RL.off rfl rfl ?_
    refine RL.off rfl rfl ?_
    refine RL.ev (.pick_f rfl rfl) rfl rfl ?_
    refine RL.ev (.assign rfl) rfl rfl ?_
    refine RL.nil (RC.back ?_)
    refine RC.done (rs := [.tmp 4]) (vs := [_]) rfl rfl ⟨rfl, trivial⟩ ?_
    -- end 4
    refine ⟨congrArg Value.bool ?_, S⟩
    first | exact (decide_eq_false (fun e => g10 e.1)).symm | exact (decide_eq_false (fun e => g17 e.2.1)).symm | exact (decide_eq_false (fun e => g24 e.2.2.1)).symm | exact decide_eq_decide.2 ⟨fun h => ⟨g10, g17, g24, h⟩, fun h => h.2.2.2⟩
/-- an answer of the reference -/
def moT (p : Ph) (m : Mo) (r : ResT) : List Value := [.slice p.a1 m.map.length p.c1, .slice p.a2 m.tab.length p.c2, .slice p.a3 m.row.length p.c3, .slice p.a4 m.heap.length p.c4, .int .i64 r.e, .int .i64 r.a, .int .i64 r.b]
def AnsT (M : Nat → Prop) (w w' : World) (q : Mo × ResT) (u : Value) : Prop := Sub w w' ∧ ∃ p' M', u = .agg (moT p' q.1 q.2).toArray ∧ MoS p' q.1 ∧ Ft M' (fun u => MoR u p' q.1) w' ∧ Up M w M'
theorem c_refDo (p : Ph) (m : Mo) (hs : MoS p m) (hR : rightM m) (o : OpT) (hok : okP o) (w : World) (M : Nat → Prop) (hF : Ft M (fun u => MoR u p m) w) :
    FC Try.prog 18 [moV p m, .agg o.cells.toArray] w (fun u w' => AnsT M w w' (doM m o) u) := by
  have hRd := rightM_do hR hok
  obtain ⟨h1, h2, h3, h4, h5, h6, h7, h8⟩ := (rightM_iff m).1 hR
  have hbx := box_cases hok
  refine FC.intro Try.func18 rfl Try.ntmps18 rfl ?_
  have S := Sub.refl w
  refine RC.seq ?_
  refine RC.region rfl ?_
  refine RL.box rfl rfl rfl (fun b_2 w_2 e_2 z_2 hb_2 s_2 => ?_)
  have ge_2 := S.le e_2
  have d_hF_b_2 := hF.neNew e_2
  have S := S.trans s_2
  have hF := hF.sub s_2
  have hb_2 : Has w_2 b_2 ([.slice p.a1 m.map.length p.c1, .slice p.a2 m.tab.length p.c2, .slice p.a3 m.row.length p.c3, .slice p.a4 m.heap.length p.c4]) _ := hb_2
  refine RL.box rfl rfl rfl (fun b_3 w_3 e_3 z_3 hb_3 s_3 => ?_)
  have ge_3 := S.le e_3
  have n_2__3 := hb_2.ne e_3
  have d_hF_b_3 := hF.neNew e_3
  have S := S.trans s_3
  have hF := hF.sub s_3
  have hb_2 := hb_2.sub s_3
  have hb_3 : Has w_3 b_3 ([.int .i64 o.box, .int .i64 o.kind, .int .i64 o.a, .int .i64 o.b]) _ := hb_3
  refine RL.alloc ze41 rfl rfl (fun b_4 w_4 e_4 z_4 hb_4 s_4 => ?_)
  have ge_4 := S.le e_4
  have n_2__4 := hb_2.ne e_4
  have n_3__4 := hb_3.ne e_4
  have d_hF_b_4 := hF.neNew e_4
  have S := S.trans s_4
  have hF := hF.sub s_4
  have hb_2 := hb_2.sub s_4
  have hb_3 := hb_3.sub s_4
  refine RL.nil (RC.back ?_)
  refine RC.seq ?_
  refine RC.region rfl ?_
  refine RL.ev (.loadR ([.slice p.a1 m.map.length p.c1, .slice p.a2 m.tab.length p.c2, .slice p.a3 m.row.length p.c3, .slice p.a4 m.heap.length p.c4]) sh25 rfl hb_2.row rfl) rfl rfl ?_
  refine RL.ev (.as (v' := .agg #[.slice p.a1 m.map.length p.c1, .slice p.a2 m.tab.length p.c2, .slice p.a3 m.row.length p.c3, .slice p.a4 m.heap.length p.c4, .int .i64 0, .int .i64 0, .int .i64 0]) (.buildS ze41 pl41 rfl rfl) (by kernel_rfl)) rfl rfl ?_
  refine RL.alloc ze41 rfl rfl (fun b_5 w_5 e_5 z_5 hb_5 s_5 => ?_)
  have ge_5 := S.le e_5
  have n_2__5 := hb_2.ne e_5
  have n_3__5 := hb_3.ne e_5
  have n_4__5 := hb_4.ne e_5
  have d_hF_b_5 := hF.neNew e_5
  have S := S.trans s_5
  have hF := hF.sub s_5
  have hb_2 := hb_2.sub s_5
  have hb_3 := hb_3.sub s_5
  have hb_4 := hb_4.sub s_5
  refine RL.store sh41 rfl rfl rfl hb_5 (by exact Nat.le_of_ble_eq_true rfl) (by rfl) rfl (fun w1 z1 hb_5 a1 => ?_)
  have S := S.upd a1 ge_5
  have hF := hF.updD a1 d_hF_b_5
  have hb_2 := hb_2.upd a1 n_2__5
  have hb_3 := hb_3.upd a1 n_3__5
  have hb_4 := hb_4.upd a1 n_4__5
  have hb_5 : Has w1 b_5 ([.slice p.a1 m.map.length p.c1, .slice p.a2 m.tab.length p.c2, .slice p.a3 m.row.length p.c3, .slice p.a4 m.heap.length p.c4, .int .i64 0, .int .i64 0, .int .i64 0]) _ := hb_5.now (by kernel_rfl)
  refine RL.nil (RC.back ?_)
  refine RC.seq ?_
  refine RC.seq ?_
  refine RC.region rfl ?_
  refine RL.ev (.field0 fo34_0 rfl) rfl rfl ?_
  refine RL.ev (.load1 sh3 rfl (hb_3.cell rfl)) rfl rfl ?_
  refine RL.nil (RC.back ?_)
  refine RC.block ?_
  refine RC.seq ?_
  refine RC.region rfl ?_
  refine RL.ev (.bin rfl rfl rfl) rfl rfl ?_
  refine RL.ev (.assign rfl) rfl rfl ?_
  refine RL.nil (RC.back ?_)
  refine RC.cond_dec rfl (fun h2 => ?_) (fun h2 => ?_)
  ·
    have g14 : o.box = 1 := h2
    refine RC.seq ?_
    refine RC.region rfl ?_
    refine RL.ev (.field0 fo25_0 rfl) rfl rfl ?_
    refine RL.ev (.load1 sh22 rfl (hb_2.cell rfl)) rfl rfl ?_
    refine RL.ev (.loadR ([.int .i64 o.box, .int .i64 o.kind, .int .i64 o.a, .int .i64 o.b]) sh34 rfl hb_3.row rfl) rfl rfl ?_
    refine RL.call rfl ok35 (c_refPairs m.map p.a1 p.c1 _ rfl h7 h3.2 hs.k1 o hok w1 M (hF.imp fun u h => h.h1)) rfl rfl ?_
    rintro _ w3 ⟨s4, a', c', M', rfl, hc', hF', hup⟩
    have d_hF'_b_2 := upNe hup d_hF_b_2 hb_2.lt
    have d_hF'_b_3 := upNe hup d_hF_b_3 hb_3.lt
    have d_hF'_b_4 := upNe hup d_hF_b_4 hb_4.lt
    have d_hF'_b_5 := upNe hup d_hF_b_5 hb_5.lt
    have hup := hup.le S.size
    have S := S.trans s4
    have hF := hF.sub s4
    have hb_2 := hb_2.sub s4
    have hb_3 := hb_3.sub s4
    have hb_4 := hb_4.sub s4
    have hb_5 := hb_5.sub s4
    refine RL.alloc ze65 rfl rfl (fun b_6 w_6 e_6 z_6 hb_6 s_6 => ?_)
    have ge_6 := S.le e_6
    have n_2__6 := hb_2.ne e_6
    have n_3__6 := hb_3.ne e_6
    have n_4__6 := hb_4.ne e_6
    have n_5__6 := hb_5.ne e_6
    have d_hF_b_6 := hF.neNew e_6
    have d_hF'_b_6 := hF'.neNew e_6
    have S := S.trans s_6
    have hF := hF.sub s_6
    have hb_2 := hb_2.sub s_6
    have hb_3 := hb_3.sub s_6
    have hb_4 := hb_4.sub s_6
    have hb_5 := hb_5.sub s_6
    have hF' := hF'.sub s_6
    refine RL.store sh65 rfl rfl rfl hb_6 (by exact Nat.le_of_ble_eq_true rfl) (by rfl) rfl (fun w5 z5 hb_6 a5 => ?_)
    have S := S.upd a5 ge_6
    have hF := hF.updD a5 d_hF_b_6
    have hb_2 := hb_2.upd a5 n_2__6
    have hb_3 := hb_3.upd a5 n_3__6
    have hb_4 := hb_4.upd a5 n_4__6
    have hb_5 := hb_5.upd a5 n_5__6
    have hF' := hF'.updD a5 d_hF'_b_6
    have hb_6 : Has w5 b_6 ([.slice a' (pairsM m.map o).1.length c', .int .i64 (pairsM m.map o).2.e, .int .i64 (pairsM m.map o).2.a, .int .i64 (pairsM m.map o).2.b]) _ := hb_6.now (by kernel_rfl)
    refine RL.nil (RC.back ?_)
    refine RC.seq ?_
    refine RC.region rfl ?_
    refine RL.ev (.field0 fo65_0 rfl) rfl rfl ?_
    refine RL.ev (.load1 sh22 rfl (hb_6.cell rfl)) rfl rfl ?_
    refine RL.ev (.field0 fo41_0 rfl) rfl rfl ?_
    refine RL.ev (.field0 fo25_0 rfl) rfl rfl ?_
    refine RL.store sh22 rfl rfl rfl hb_5 (by exact Nat.le_of_ble_eq_true rfl) (by rfl) rfl (fun w6 z6 hb_5 a6 => ?_)
    have S := S.upd a6 ge_5
    have hF := hF.updD a6 d_hF_b_5
    have hb_2 := hb_2.upd a6 n_2__5
    have hb_3 := hb_3.upd a6 n_3__5
    have hb_4 := hb_4.upd a6 n_4__5
    have hF' := hF'.updD a6 d_hF'_b_5
    have hb_6 := hb_6.upd a6 n_5__6.symm
    have hb_5 : Has w6 b_5 ([.slice a' (pairsM m.map o).1.length c', .slice p.a2 m.tab.length p.c2, .slice p.a3 m.row.length p.c3, .slice p.a4 m.heap.length p.c4, .int .i64 0, .int .i64 0, .int .i64 0]) _ := hb_5
    refine RL.nil (RC.back ?_)
    refine RC.region rfl ?_
    refine RL.ev (.field0 fo65_1 rfl) rfl rfl ?_
    refine RL.ev (.loadR ([.int .i64 (pairsM m.map o).2.e, .int .i64 (pairsM m.map o).2.a, .int .i64 (pairsM m.map o).2.b]) sh39 rfl (Has.row_at (pre := [.slice a' (pairsM m.map o).1.length c']) (post := []) hb_6 rfl) rfl) rfl rfl ?_
    refine RL.ev (.field0 fo41_1 rfl) rfl rfl ?_
    refine RL.store sh39 rfl rfl rfl hb_5 (by exact Nat.le_of_ble_eq_true rfl) (by rfl) rfl (fun w7 z7 hb_5 a7 => ?_)
    have S := S.upd a7 ge_5
    have hF := hF.updD a7 d_hF_b_5
    have hb_2 := hb_2.upd a7 n_2__5
    have hb_3 := hb_3.upd a7 n_3__5
    have hb_4 := hb_4.upd a7 n_4__5
    have hF' := hF'.updD a7 d_hF'_b_5
    have hb_6 := hb_6.upd a7 n_5__6.symm
    have hb_5 := Has.is hb_5 (moT { p with a1 := a', c1 := c' } { m with map := (pairsM m.map o).1 } (pairsM m.map o).2) rfl
    refine RL.nil (RC.back ?_)
    refine RC.seq ?_
    refine RC.region rfl ?_
    refine RL.ev (.loadR (moT { p with a1 := a', c1 := c' } { m with map := (pairsM m.map o).1 } (pairsM m.map o).2) sh41 rfl hb_5.row rfl) rfl rfl ?_
    refine RL.store sh41 rfl rfl rfl hb_4 (by exact Nat.le_of_ble_eq_true rfl) (by rfl) rfl (fun w8 z8 hb_4 a8 => ?_)
    have S := S.upd a8 ge_4
    have hF := hF.updD a8 d_hF_b_4
    have hb_2 := hb_2.upd a8 n_2__4
    have hb_3 := hb_3.upd a8 n_3__4
    have hb_5 := hb_5.upd a8 n_4__5.symm
    have hF' := hF'.updD a8 d_hF'_b_4
    have hb_6 := hb_6.upd a8 n_4__6.symm
    have hb_4 : Has w8 b_4 (moT { p with a1 := a', c1 := c' } { m with map := (pairsM m.map o).1 } (pairsM m.map o).2) _ := hb_4.now (by kernel_rfl)
    refine RL.nil (RC.back ?_)
    refine RC.done (rs := [.cell 4 41]) (vs := [_]) rfl rfl ⟨⟨_, rfl, .inr ⟨moT { p with a1 := a', c1 := c' } { m with map := (pairsM m.map o).1 } (pairsM m.map o).2, sh41, hb_4.row, rfl⟩⟩, trivial⟩ ?_
    -- end 1
    have hd : doM m o = ({ m with map := (pairsM m.map o).1 }, (pairsM m.map o).2) := (by unfold doM; rw [if_pos g14])
    rw [hd] at hRd ⊢
    have hl : ∀ k, (M k ∨ M' k) → k < w8.heap.size := (fun k hk => hk.elim (hF.lt k) (hF'.lt k))
    exact ⟨S, { p with a1 := a', c1 := c' }, fun k => M k ∨ M' k, rfl, MoS.of hc' hs.k2 hs.k3 hs.k4 hRd, Ft.all (p := { p with a1 := a', c1 := c' }) (hF'.wid hl fun _ h => .inr h) ((hF.imp fun u h => h.h2).wid hl fun _ h => .inl h) ((hF.imp fun u h => h.h3).wid hl fun _ h => .inl h) ((hF.imp fun u h => h.h4).wid hl fun _ h => .inl h), (Up.refl _ _).or hup⟩
  ·
    have g14 : ¬ o.box = 1 := h2
    refine RC.seq ?_
    refine RC.region rfl ?_
    refine RL.ev (.bin rfl rfl rfl) rfl rfl ?_
    refine RL.ev (.assign rfl) rfl rfl ?_
    refine RL.nil (RC.back ?_)
    refine RC.cond_dec rfl (fun h9 => ?_) (fun h9 => ?_)
    ·
      have g27 : o.box = 2 := h9
      refine RC.seq ?_
      refine RC.region rfl ?_
      refine RL.ev (.field0 fo25_1 rfl) rfl rfl ?_
      refine RL.ev (.load1 sh22 rfl (hb_2.cell rfl)) rfl rfl ?_
      refine RL.ev (.loadR ([.int .i64 o.box, .int .i64 o.kind, .int .i64 o.a, .int .i64 o.b]) sh34 rfl hb_3.row rfl) rfl rfl ?_
      refine RL.call rfl ok35 (c_refPairs m.tab p.a2 p.c2 _ rfl h8 h4.2 hs.k2 o hok w1 M (hF.imp fun u h => h.h2)) rfl rfl ?_
      rintro _ w10 ⟨s11, a', c', M', rfl, hc', hF', hup⟩
      have d_hF'_b_2 := upNe hup d_hF_b_2 hb_2.lt
      have d_hF'_b_3 := upNe hup d_hF_b_3 hb_3.lt
      have d_hF'_b_4 := upNe hup d_hF_b_4 hb_4.lt
      have d_hF'_b_5 := upNe hup d_hF_b_5 hb_5.lt
      have hup := hup.le S.size
      have S := S.trans s11
      have hF := hF.sub s11
      have hb_2 := hb_2.sub s11
      have hb_3 := hb_3.sub s11
      have hb_4 := hb_4.sub s11
      have hb_5 := hb_5.sub s11
      refine RL.alloc ze65 rfl rfl (fun b_7 w_7 e_7 z_7 hb_7 s_7 => ?_)
      have ge_7 := S.le e_7
      have n_2__7 := hb_2.ne e_7
      have n_3__7 := hb_3.ne e_7
      have n_4__7 := hb_4.ne e_7
      have n_5__7 := hb_5.ne e_7
      have d_hF_b_7 := hF.neNew e_7
      have d_hF'_b_7 := hF'.neNew e_7
      have S := S.trans s_7
      have hF := hF.sub s_7
      have hb_2 := hb_2.sub s_7
      have hb_3 := hb_3.sub s_7
      have hb_4 := hb_4.sub s_7
      have hb_5 := hb_5.sub s_7
      have hF' := hF'.sub s_7
      refine RL.store sh65 rfl rfl rfl hb_7 (by exact Nat.le_of_ble_eq_true rfl) (by rfl) rfl (fun w12 z12 hb_7 a12 => ?_)
      have S := S.upd a12 ge_7
      have hF := hF.updD a12 d_hF_b_7
      have hb_2 := hb_2.upd a12 n_2__7
      have hb_3 := hb_3.upd a12 n_3__7
      have hb_4 := hb_4.upd a12 n_4__7
      have hb_5 := hb_5.upd a12 n_5__7
      have hF' := hF'.updD a12 d_hF'_b_7
      have hb_7 : Has w12 b_7 ([.slice a' (pairsM m.tab o).1.length c', .int .i64 (pairsM m.tab o).2.e, .int .i64 (pairsM m.tab o).2.a, .int .i64 (pairsM m.tab o).2.b]) _ := hb_7.now (by kernel_rfl)
      refine RL.nil (RC.back ?_)
      refine RC.seq ?_
      refine RC.region rfl ?_
      refine RL.ev (.field0 fo65_0 rfl) rfl rfl ?_
      refine RL.ev (.load1 sh22 rfl (hb_7.cell rfl)) rfl rfl ?_
      refine RL.ev (.field0 fo41_0 rfl) rfl rfl ?_
      refine RL.ev (.field0 fo25_1 rfl) rfl rfl ?_
      refine RL.store sh22 rfl rfl rfl hb_5 (by exact Nat.le_of_ble_eq_true rfl) (by rfl) rfl (fun w13 z13 hb_5 a13 => ?_)
      have S := S.upd a13 ge_5
      have hF := hF.updD a13 d_hF_b_5
      have hb_2 := hb_2.upd a13 n_2__5
      have hb_3 := hb_3.upd a13 n_3__5
      have hb_4 := hb_4.upd a13 n_4__5
      have hF' := hF'.updD a13 d_hF'_b_5
      have hb_7 := hb_7.upd a13 n_5__7.symm
      have hb_5 : Has w13 b_5 ([.slice p.a1 m.map.length p.c1, .slice a' (pairsM m.tab o).1.length c', .slice p.a3 m.row.length p.c3, .slice p.a4 m.heap.length p.c4, .int .i64 0, .int .i64 0, .int .i64 0]) _ := hb_5
      refine RL.nil (RC.back ?_)
      refine RC.region rfl ?_
      refine RL.ev (.field0 fo65_1 rfl) rfl rfl ?_
      refine RL.ev (.loadR ([.int .i64 (pairsM m.tab o).2.e, .int .i64 (pairsM m.tab o).2.a, .int .i64 (pairsM m.tab o).2.b]) sh39 rfl (Has.row_at (pre := [.slice a' (pairsM m.tab o).1.length c']) (post := []) hb_7 rfl) rfl) rfl rfl ?_
      refine RL.ev (.field0 fo41_1 rfl) rfl rfl ?_
      refine RL.store sh39 rfl rfl rfl hb_5 (by exact Nat.le_of_ble_eq_true rfl) (by rfl) rfl (fun w14 z14 hb_5 a14 => ?_)
      have S := S.upd a14 ge_5
      have hF := hF.updD a14 d_hF_b_5
      have hb_2 := hb_2.upd a14 n_2__5
      have hb_3 := hb_3.upd a14 n_3__5
      have hb_4 := hb_4.upd a14 n_4__5
      have hF' := hF'.updD a14 d_hF'_b_5
      have hb_7 := hb_7.upd a14 n_5__7.symm
      have hb_5 := Has.is hb_5 (moT { p with a2 := a', c2 := c' } { m with tab := (pairsM m.tab o).1 } (pairsM m.tab o).2) rfl
      refine RL.nil (RC.back ?_)
      refine RC.seq ?_
      refine RC.region rfl ?_
      refine RL.ev (.loadR (moT { p with a2 := a', c2 := c' } { m with tab := (pairsM m.tab o).1 } (pairsM m.tab o).2) sh41 rfl hb_5.row rfl) rfl rfl ?_
      refine RL.store sh41 rfl rfl rfl hb_4 (by exact Nat.le_of_ble_eq_true rfl) (by rfl) rfl (fun w15 z15 hb_4 a15 => ?_)
      have S := S.upd a15 ge_4
      have hF := hF.updD a15 d_hF_b_4
      have hb_2 := hb_2.upd a15 n_2__4
      have hb_3 := hb_3.upd a15 n_3__4
      have hb_5 := hb_5.upd a15 n_4__5.symm
      have hF' := hF'.updD a15 d_hF'_b_4
      have hb_7 := hb_7.upd a15 n_4__7.symm
      have hb_4 : Has w15 b_4 (moT { p with a2 := a', c2 := c' } { m with tab := (pairsM m.tab o).1 } (pairsM m.tab o).2) _ := hb_4.now (by kernel_rfl)
      refine RL.nil (RC.back ?_)
      refine RC.done (rs := [.cell 4 41]) (vs := [_]) rfl rfl ⟨⟨_, rfl, .inr ⟨moT { p with a2 := a', c2 := c' } { m with tab := (pairsM m.tab o).1 } (pairsM m.tab o).2, sh41, hb_4.row, rfl⟩⟩, trivial⟩ ?_
      -- end 2
      have hd : doM m o = ({ m with tab := (pairsM m.tab o).1 }, (pairsM m.tab o).2) := (by unfold doM; rw [if_neg (by omega), if_pos g27])
      rw [hd] at hRd ⊢
      have hl : ∀ k, (M k ∨ M' k) → k < w15.heap.size := (fun k hk => hk.elim (hF.lt k) (hF'.lt k))
      exact ⟨S, { p with a2 := a', c2 := c' }, fun k => M k ∨ M' k, rfl, MoS.of hs.k1 hc' hs.k3 hs.k4 hRd, Ft.all (p := { p with a2 := a', c2 := c' }) ((hF.imp fun u h => h.h1).wid hl fun _ h => .inl h) (hF'.wid hl fun _ h => .inr h) ((hF.imp fun u h => h.h3).wid hl fun _ h => .inl h) ((hF.imp fun u h => h.h4).wid hl fun _ h => .inl h), (Up.refl _ _).or hup⟩
    ·
      have g27 : ¬ o.box = 2 := h9
      refine RC.seq ?_
      refine RC.region rfl ?_
      refine RL.ev (.bin rfl rfl rfl) rfl rfl ?_
      refine RL.ev (.assign rfl) rfl rfl ?_
      refine RL.nil (RC.back ?_)
      refine RC.cond_dec rfl (fun h16 => ?_) (fun h16 => ?_)
      ·
        have g40 : o.box = 3 := h16
        refine RC.seq ?_
        refine RC.region rfl ?_
        refine RL.ev (.field0 fo25_2 rfl) rfl rfl ?_
        refine RL.ev (.load1 sh23 rfl (hb_2.cell rfl)) rfl rfl ?_
        refine RL.ev (.loadR ([.int .i64 o.box, .int .i64 o.kind, .int .i64 o.a, .int .i64 o.b]) sh34 rfl hb_3.row rfl) rfl rfl ?_
        refine RL.call rfl ok36 (c_refRowM m.row p.a3 p.c3 _ rfl h6 hs.k3 o hok w1 M (hF.imp fun u h => h.h3)) rfl rfl ?_
        rintro _ w17 ⟨s18, a', c', M', rfl, hc', hF', hup⟩
        have d_hF'_b_2 := upNe hup d_hF_b_2 hb_2.lt
        have d_hF'_b_3 := upNe hup d_hF_b_3 hb_3.lt
        have d_hF'_b_4 := upNe hup d_hF_b_4 hb_4.lt
        have d_hF'_b_5 := upNe hup d_hF_b_5 hb_5.lt
        have hup := hup.le S.size
        have S := S.trans s18
        have hF := hF.sub s18
        have hb_2 := hb_2.sub s18
        have hb_3 := hb_3.sub s18
        have hb_4 := hb_4.sub s18
        have hb_5 := hb_5.sub s18
        refine RL.alloc ze68 rfl rfl (fun b_8 w_8 e_8 z_8 hb_8 s_8 => ?_)
        have ge_8 := S.le e_8
        have n_2__8 := hb_2.ne e_8
        have n_3__8 := hb_3.ne e_8
        have n_4__8 := hb_4.ne e_8
        have n_5__8 := hb_5.ne e_8
        have d_hF_b_8 := hF.neNew e_8
        have d_hF'_b_8 := hF'.neNew e_8
        have S := S.trans s_8
        have hF := hF.sub s_8
        have hb_2 := hb_2.sub s_8
        have hb_3 := hb_3.sub s_8
        have hb_4 := hb_4.sub s_8
        have hb_5 := hb_5.sub s_8
        have hF' := hF'.sub s_8
        refine RL.store sh68 rfl rfl rfl hb_8 (by exact Nat.le_of_ble_eq_true rfl) (by rfl) rfl (fun w19 z19 hb_8 a19 => ?_)
        have S := S.upd a19 ge_8
        have hF := hF.updD a19 d_hF_b_8
        have hb_2 := hb_2.upd a19 n_2__8
        have hb_3 := hb_3.upd a19 n_3__8
        have hb_4 := hb_4.upd a19 n_4__8
        have hb_5 := hb_5.upd a19 n_5__8
        have hF' := hF'.updD a19 d_hF'_b_8
        have hb_8 : Has w19 b_8 ([.slice a' (rowM m.row o).1.length c', .int .i64 (rowM m.row o).2.e, .int .i64 (rowM m.row o).2.a, .int .i64 (rowM m.row o).2.b]) _ := hb_8.now (by kernel_rfl)
        refine RL.nil (RC.back ?_)
        refine RC.seq ?_
        refine RC.region rfl ?_
        refine RL.ev (.field0 fo68_0 rfl) rfl rfl ?_
        refine RL.ev (.load1 sh23 rfl (hb_8.cell rfl)) rfl rfl ?_
        refine RL.ev (.field0 fo41_0 rfl) rfl rfl ?_
        refine RL.ev (.field0 fo25_2 rfl) rfl rfl ?_
        refine RL.store sh23 rfl rfl rfl hb_5 (by exact Nat.le_of_ble_eq_true rfl) (by rfl) rfl (fun w20 z20 hb_5 a20 => ?_)
        have S := S.upd a20 ge_5
        have hF := hF.updD a20 d_hF_b_5
        have hb_2 := hb_2.upd a20 n_2__5
        have hb_3 := hb_3.upd a20 n_3__5
        have hb_4 := hb_4.upd a20 n_4__5
        have hF' := hF'.updD a20 d_hF'_b_5
        have hb_8 := hb_8.upd a20 n_5__8.symm
        have hb_5 : Has w20 b_5 ([.slice p.a1 m.map.length p.c1, .slice p.a2 m.tab.length p.c2, .slice a' (rowM m.row o).1.length c', .slice p.a4 m.heap.length p.c4, .int .i64 0, .int .i64 0, .int .i64 0]) _ := hb_5
        refine RL.nil (RC.back ?_)
        refine RC.region rfl ?_
        refine RL.ev (.field0 fo68_1 rfl) rfl rfl ?_
        refine RL.ev (.loadR ([.int .i64 (rowM m.row o).2.e, .int .i64 (rowM m.row o).2.a, .int .i64 (rowM m.row o).2.b]) sh39 rfl (Has.row_at (pre := [.slice a' (rowM m.row o).1.length c']) (post := []) hb_8 rfl) rfl) rfl rfl ?_
        refine RL.ev (.field0 fo41_1 rfl) rfl rfl ?_
        refine RL.store sh39 rfl rfl rfl hb_5 (by exact Nat.le_of_ble_eq_true rfl) (by rfl) rfl (fun w21 z21 hb_5 a21 => ?_)
        have S := S.upd a21 ge_5
        have hF := hF.updD a21 d_hF_b_5
        have hb_2 := hb_2.upd a21 n_2__5
        have hb_3 := hb_3.upd a21 n_3__5
        have hb_4 := hb_4.upd a21 n_4__5
        have hF' := hF'.updD a21 d_hF'_b_5
        have hb_8 := hb_8.upd a21 n_5__8.symm
        have hb_5 := Has.is hb_5 (moT { p with a3 := a', c3 := c' } { m with row := (rowM m.row o).1 } (rowM m.row o).2) rfl
        refine RL.nil (RC.back ?_)
        refine RC.seq ?_
        refine RC.region rfl ?_
        refine RL.ev (.loadR (moT { p with a3 := a', c3 := c' } { m with row := (rowM m.row o).1 } (rowM m.row o).2) sh41 rfl hb_5.row rfl) rfl rfl ?_
        refine RL.store sh41 rfl rfl rfl hb_4 (by exact Nat.le_of_ble_eq_true rfl) (by rfl) rfl (fun w22 z22 hb_4 a22 => ?_)
        have S := S.upd a22 ge_4
        have hF := hF.updD a22 d_hF_b_4
        have hb_2 := hb_2.upd a22 n_2__4
        have hb_3 := hb_3.upd a22 n_3__4
        have hb_5 := hb_5.upd a22 n_4__5.symm
        have hF' := hF'.updD a22 d_hF'_b_4
        have hb_8 := hb_8.upd a22 n_4__8.symm
        have hb_4 : Has w22 b_4 (moT { p with a3 := a', c3 := c' } { m with row := (rowM m.row o).1 } (rowM m.row o).2) _ := hb_4.now (by kernel_rfl)
        refine RL.nil (RC.back ?_)
        refine RC.done (rs := [.cell 4 41]) (vs := [_]) rfl rfl ⟨⟨_, rfl, .inr ⟨moT { p with a3 := a', c3 := c' } { m with row := (rowM m.row o).1 } (rowM m.row o).2, sh41, hb_4.row, rfl⟩⟩, trivial⟩ ?_
        -- end 3
        have hd : doM m o = ({ m with row := (rowM m.row o).1 }, (rowM m.row o).2) := (by unfold doM; rw [if_neg (by omega), if_neg (by omega), if_pos g40])
        rw [hd] at hRd ⊢
        have hl : ∀ k, (M k ∨ M' k) → k < w22.heap.size := (fun k hk => hk.elim (hF.lt k) (hF'.lt k))
        exact ⟨S, { p with a3 := a', c3 := c' }, fun k => M k ∨ M' k, rfl, MoS.of hs.k1 hs.k2 hc' hs.k4 hRd, Ft.all (p := { p with a3 := a', c3 := c' }) ((hF.imp fun u h => h.h1).wid hl fun _ h => .inl h) ((hF.imp fun u h => h.h2).wid hl fun _ h => .inl h) (hF'.wid hl fun _ h => .inr h) ((hF.imp fun u h => h.h4).wid hl fun _ h => .inl h), (Up.refl _ _).or hup⟩
      ·
        have g40 : ¬ o.box = 3 := h16
        refine RC.seq ?_
        refine RC.region rfl ?_
        refine RL.ev (.bin rfl rfl rfl) rfl rfl ?_
        refine RL.ev (.assign rfl) rfl rfl ?_
        refine RL.nil (RC.back ?_)
        refine RC.cond_dec rfl (fun h23 => ?_) (fun h23 => ?_)
        ·
          have g53 : o.box = 4 := h23
          refine RC.seq ?_
          refine RC.region rfl ?_
          refine RL.ev (.field0 fo25_3 rfl) rfl rfl ?_
          refine RL.ev (.load1 sh22 rfl (hb_2.cell rfl)) rfl rfl ?_
          refine RL.ev (.loadR ([.int .i64 o.box, .int .i64 o.kind, .int .i64 o.a, .int .i64 o.b]) sh34 rfl hb_3.row rfl) rfl rfl ?_
          refine RL.call rfl ok37 (c_refHeap m.heap p.a4 p.c4 _ rfl h5.2 hs.k4 o hok w1 M (hF.imp fun u h => h.h4)) rfl rfl ?_
          rintro _ w24 ⟨s25, a', c', M', rfl, hc', hF', hup⟩
          have d_hF'_b_2 := upNe hup d_hF_b_2 hb_2.lt
          have d_hF'_b_3 := upNe hup d_hF_b_3 hb_3.lt
          have d_hF'_b_4 := upNe hup d_hF_b_4 hb_4.lt
          have d_hF'_b_5 := upNe hup d_hF_b_5 hb_5.lt
          have hup := hup.le S.size
          have S := S.trans s25
          have hF := hF.sub s25
          have hb_2 := hb_2.sub s25
          have hb_3 := hb_3.sub s25
          have hb_4 := hb_4.sub s25
          have hb_5 := hb_5.sub s25
          refine RL.alloc ze65 rfl rfl (fun b_9 w_9 e_9 z_9 hb_9 s_9 => ?_)
          have ge_9 := S.le e_9
          have n_2__9 := hb_2.ne e_9
          have n_3__9 := hb_3.ne e_9
          have n_4__9 := hb_4.ne e_9
          have n_5__9 := hb_5.ne e_9
          have d_hF_b_9 := hF.neNew e_9
          have d_hF'_b_9 := hF'.neNew e_9
          have S := S.trans s_9
          have hF := hF.sub s_9
          have hb_2 := hb_2.sub s_9
          have hb_3 := hb_3.sub s_9
          have hb_4 := hb_4.sub s_9
          have hb_5 := hb_5.sub s_9
          have hF' := hF'.sub s_9
          refine RL.store sh65 rfl rfl rfl hb_9 (by exact Nat.le_of_ble_eq_true rfl) (by rfl) rfl (fun w26 z26 hb_9 a26 => ?_)
          have S := S.upd a26 ge_9
          have hF := hF.updD a26 d_hF_b_9
          have hb_2 := hb_2.upd a26 n_2__9
          have hb_3 := hb_3.upd a26 n_3__9
          have hb_4 := hb_4.upd a26 n_4__9
          have hb_5 := hb_5.upd a26 n_5__9
          have hF' := hF'.updD a26 d_hF'_b_9
          have hb_9 : Has w26 b_9 ([.slice a' (heapM m.heap o).1.length c', .int .i64 (heapM m.heap o).2.e, .int .i64 (heapM m.heap o).2.a, .int .i64 (heapM m.heap o).2.b]) _ := hb_9.now (by kernel_rfl)
          refine RL.nil (RC.back ?_)
          refine RC.seq ?_
          refine RC.region rfl ?_
          refine RL.ev (.field0 fo65_0 rfl) rfl rfl ?_
          refine RL.ev (.load1 sh22 rfl (hb_9.cell rfl)) rfl rfl ?_
          refine RL.ev (.field0 fo41_0 rfl) rfl rfl ?_
          refine RL.ev (.field0 fo25_3 rfl) rfl rfl ?_
          refine RL.store sh22 rfl rfl rfl hb_5 (by exact Nat.le_of_ble_eq_true rfl) (by rfl) rfl (fun w27 z27 hb_5 a27 => ?_)
          have S := S.upd a27 ge_5
          have hF := hF.updD a27 d_hF_b_5
          have hb_2 := hb_2.upd a27 n_2__5
          have hb_3 := hb_3.upd a27 n_3__5
          have hb_4 := hb_4.upd a27 n_4__5
          have hF' := hF'.updD a27 d_hF'_b_5
          have hb_9 := hb_9.upd a27 n_5__9.symm
          have hb_5 : Has w27 b_5 ([.slice p.a1 m.map.length p.c1, .slice p.a2 m.tab.length p.c2, .slice p.a3 m.row.length p.c3, .slice a' (heapM m.heap o).1.length c', .int .i64 0, .int .i64 0, .int .i64 0]) _ := hb_5
          refine RL.nil (RC.back ?_)
          refine RC.region rfl ?_
          refine RL.ev (.field0 fo65_1 rfl) rfl rfl ?_
          refine RL.ev (.loadR ([.int .i64 (heapM m.heap o).2.e, .int .i64 (heapM m.heap o).2.a, .int .i64 (heapM m.heap o).2.b]) sh39 rfl (Has.row_at (pre := [.slice a' (heapM m.heap o).1.length c']) (post := []) hb_9 rfl) rfl) rfl rfl ?_
          refine RL.ev (.field0 fo41_1 rfl) rfl rfl ?_
          refine RL.store sh39 rfl rfl rfl hb_5 (by exact Nat.le_of_ble_eq_true rfl) (by rfl) rfl (fun w28 z28 hb_5 a28 => ?_)
          have S := S.upd a28 ge_5
          have hF := hF.updD a28 d_hF_b_5
          have hb_2 := hb_2.upd a28 n_2__5
          have hb_3 := hb_3.upd a28 n_3__5
          have hb_4 := hb_4.upd a28 n_4__5
          have hF' := hF'.updD a28 d_hF'_b_5
          have hb_9 := hb_9.upd a28 n_5__9.symm
          have hb_5 := Has.is hb_5 (moT { p with a4 := a', c4 := c' } { m with heap := (heapM m.heap o).1 } (heapM m.heap o).2) rfl
          refine RL.nil (RC.back ?_)
          refine RC.seq ?_
          refine RC.region rfl ?_
          refine RL.ev (.loadR (moT { p with a4 := a', c4 := c' } { m with heap := (heapM m.heap o).1 } (heapM m.heap o).2) sh41 rfl hb_5.row rfl) rfl rfl ?_
          refine RL.store sh41 rfl rfl rfl hb_4 (by exact Nat.le_of_ble_eq_true rfl) (by rfl) rfl (fun w29 z29 hb_4 a29 => ?_)
          have S := S.upd a29 ge_4
          have hF := hF.updD a29 d_hF_b_4
          have hb_2 := hb_2.upd a29 n_2__4
          have hb_3 := hb_3.upd a29 n_3__4
          have hb_5 := hb_5.upd a29 n_4__5.symm
          have hF' := hF'.updD a29 d_hF'_b_4
          have hb_9 := hb_9.upd a29 n_4__9.symm
          have hb_4 : Has w29 b_4 (moT { p with a4 := a', c4 := c' } { m with heap := (heapM m.heap o).1 } (heapM m.heap o).2) _ := hb_4.now (by kernel_rfl)
          refine RL.nil (RC.back ?_)
          refine RC.done (rs := [.cell 4 41]) (vs := [_]) rfl rfl ⟨⟨_, rfl, .inr ⟨moT { p with a4 := a', c4 := c' } { m with heap := (heapM m.heap o).1 } (heapM m.heap o).2, sh41, hb_4.row, rfl⟩⟩, trivial⟩ ?_
          -- end 4
          have hd : doM m o = ({ m with heap := (heapM m.heap o).1 }, (heapM m.heap o).2) := (by unfold doM; rw [if_neg (by omega), if_neg (by omega), if_neg (by omega)])
          rw [hd] at hRd ⊢
          have hl : ∀ k, (M k ∨ M' k) → k < w29.heap.size := (fun k hk => hk.elim (hF.lt k) (hF'.lt k))
          exact ⟨S, { p with a4 := a', c4 := c' }, fun k => M k ∨ M' k, rfl, MoS.of hs.k1 hs.k2 hs.k3 hc' hRd, Ft.all (p := { p with a4 := a', c4 := c' }) ((hF.imp fun u h => h.h1).wid hl fun _ h => .inl h) ((hF.imp fun u h => h.h2).wid hl fun _ h => .inl h) ((hF.imp fun u h => h.h3).wid hl fun _ h => .inl h) (hF'.wid hl fun _ h => .inr h), (Up.refl _ _).or hup⟩
        ·
          exact absurd hbx (by omega)
end Go.Proofs.Ytjafbffehmombaa
