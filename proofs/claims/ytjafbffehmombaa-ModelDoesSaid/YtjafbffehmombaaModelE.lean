/-
  The package model: do, Do and Run; the reference's Do.
-/
import Derived.Test.YtjafbffehmombaaModelD
set_option linter.unusedVariables false
set_option linter.unusedSimpArgs false
namespace Go.Proofs.Ytjafbffehmombaa
open Go Go.XL

theorem Up.or {C C1 C2 : Nat → Prop} {w : World} (h : Up C w C1) (k : Up C w C2) : Up C w (fun x => C1 x ∨ C2 x) := fun i hi => hi.elim (h i) (k i)
theorem MoS.of {p : Ph} {m : Mo} (k1 : m.map.length ≤ p.c1) (k2 : m.tab.length ≤ p.c2) (k3 : m.row.length ≤ p.c3) (k4 : m.heap.length ≤ p.c4) (h : rightM m) : MoS p m := by
  have := (rightM_iff m).1 h
  exact ⟨k1, k2, k3, k4, by omega, by omega, by omega, by omega⟩
theorem Ft.all {M : Nat → Prop} {p : Ph} {m : Mo} {w : World} (h1 : Ft M (fun u => Sl u p.a1 2 (m.map.map It.cells)) w) (h2 : Ft M (fun u => Sl u p.a2 2 (m.tab.map It.cells)) w) (h3 : Ft M (fun u => Sl u p.a3 1 (m.row.map fun x => [i6 x])) w) (h4 : Ft M (fun u => Sl u p.a4 2 (m.heap.map It.cells)) w) : Ft M (fun u => MoR u p m) w :=
  ⟨h1.lt, fun u a => ⟨h1.imm u a, h2.imm u a, h3.imm u a, h4.imm u a⟩⟩
theorem Ft.wid {M M' : Nat → Prop} {I : World → Prop} {w : World} (h : Ft M I w) (hl : ∀ k, M' k → k < w.heap.size) (hn : ∀ k, M k → M' k) : Ft M' I w :=
  ⟨hl, fun u a => h.imm u (a.mono fun k _ e hk => e (hn k hk))⟩
def boxF (k : Int) : FuncId := if k = 1 then 61 else if k = 2 then 63 else if k = 3 then 64 else 66
theorem box_cases {o : OpT} (hok : okP o) : o.box = 1 ∨ o.box = 2 ∨ o.box = 3 ∨ o.box = 4 := by have := hok.1; unfold kindP at this; omega
theorem boxF_ok (k : Int) : calleeOK Try.prog (boxF k) = true := by
  unfold boxF
  repeat' split
  all_goals first | exact ok61 | exact ok63 | exact ok64 | exact ok66
theorem boxF_at {o : OpT} (hok : okP o) : (#[Value.func (.func 61) #[] #[], .func (.func 63) #[] #[], .func (.func 64) #[] #[], .func (.func 66) #[] #[]] : Array Value)[(o.box - 1).toNat * 1]? = some (.func (.func (boxF o.box)) #[] #[]) := by
  rcases box_cases hok with e | e | e | e <;> rw [e] <;> rfl
/-- what is done by any container's operations -/
theorem c_box (b : Nat) (p : Ph) (m : Mo) (hs : MoS p m) (hR : rightM m) (o : OpT) (hok : okP o) (w : World) (M : Nat → Prop) (hF : Ft M (fun u => MoR u p m) w) (hb : Has w b (moC p m) 25) (hn : ∀ k, M k → k ≠ b) :
    FC Try.prog (boxF o.box) [.pointer (some ⟨b, 0, none⟩), .agg o.cells.toArray] w (fun u w' => ∃ p' M', u = .agg (doM m o).2.cells.toArray ∧ MoS p' (doM m o).1 ∧ Ft M' (fun u => MoR u p' (doM m o).1) w' ∧ Up M w M' ∧ Has w' b (moC p' (doM m o).1) 25 ∧ Agr (· = b) w w') := by
  have hRd := rightM_do hR hok
  obtain ⟨h1, h2, h3, h4, h5, h6, h7, h8⟩ := (rightM_iff m).1 hR
  rcases box_cases hok with e | e | e | e
  · have hd : doM m o = ({ m with map := (pairsM m.map o).1 }, (pairsM m.map o).2) := by unfold doM; rw [if_pos e]
    rw [hd] at hRd ⊢
    rw [e, show boxF 1 = 61 from rfl]
    refine FC.mono (c_box1 b p m h7 h3.2 hs.k1 o hok w M (hF.imp fun u h => h.h1) hb hn) ?_
    rintro v w' ⟨a', c', M', rfl, hc', hF', hup, hb', ag⟩
    have hF2 := hF.updD ag hn
    have hl : ∀ k, (M k ∨ M' k) → k < w'.heap.size := fun k hk => hk.elim (hF2.lt k) (hF'.lt k)
    refine ⟨{ p with a1 := a', c1 := c' }, fun k => M k ∨ M' k, rfl, MoS.of hc' hs.k2 hs.k3 hs.k4 hRd, Ft.all (p := { p with a1 := a', c1 := c' }) (hF'.wid hl fun _ h => .inr h) ((hF2.imp fun u h => h.h2).wid hl fun _ h => .inl h) ((hF2.imp fun u h => h.h3).wid hl fun _ h => .inl h) ((hF2.imp fun u h => h.h4).wid hl fun _ h => .inl h), (Up.refl _ _).or hup, hb', ag⟩
  · have hd : doM m o = ({ m with tab := (pairsM m.tab o).1 }, (pairsM m.tab o).2) := by unfold doM; rw [if_neg (by omega), if_pos e]
    rw [hd] at hRd ⊢
    rw [e, show boxF 2 = 63 from rfl]
    refine FC.mono (c_box2 b p m h8 h4.2 hs.k2 o hok w M (hF.imp fun u h => h.h2) hb hn) ?_
    rintro v w' ⟨a', c', M', rfl, hc', hF', hup, hb', ag⟩
    have hF2 := hF.updD ag hn
    have hl : ∀ k, (M k ∨ M' k) → k < w'.heap.size := fun k hk => hk.elim (hF2.lt k) (hF'.lt k)
    refine ⟨{ p with a2 := a', c2 := c' }, fun k => M k ∨ M' k, rfl, MoS.of hs.k1 hc' hs.k3 hs.k4 hRd, Ft.all (p := { p with a2 := a', c2 := c' }) ((hF2.imp fun u h => h.h1).wid hl fun _ h => .inl h) (hF'.wid hl fun _ h => .inr h) ((hF2.imp fun u h => h.h3).wid hl fun _ h => .inl h) ((hF2.imp fun u h => h.h4).wid hl fun _ h => .inl h), (Up.refl _ _).or hup, hb', ag⟩
  · have hd : doM m o = ({ m with row := (rowM m.row o).1 }, (rowM m.row o).2) := by unfold doM; rw [if_neg (by omega), if_neg (by omega), if_pos e]
    rw [hd] at hRd ⊢
    rw [e, show boxF 3 = 64 from rfl]
    refine FC.mono (c_box3 b p m trivial h6 hs.k3 o hok w M (hF.imp fun u h => h.h3) hb hn) ?_
    rintro v w' ⟨a', c', M', rfl, hc', hF', hup, hb', ag⟩
    have hF2 := hF.updD ag hn
    have hl : ∀ k, (M k ∨ M' k) → k < w'.heap.size := fun k hk => hk.elim (hF2.lt k) (hF'.lt k)
    refine ⟨{ p with a3 := a', c3 := c' }, fun k => M k ∨ M' k, rfl, MoS.of hs.k1 hs.k2 hc' hs.k4 hRd, Ft.all (p := { p with a3 := a', c3 := c' }) ((hF2.imp fun u h => h.h1).wid hl fun _ h => .inl h) ((hF2.imp fun u h => h.h2).wid hl fun _ h => .inl h) (hF'.wid hl fun _ h => .inr h) ((hF2.imp fun u h => h.h4).wid hl fun _ h => .inl h), (Up.refl _ _).or hup, hb', ag⟩
  · have hd : doM m o = ({ m with heap := (heapM m.heap o).1 }, (heapM m.heap o).2) := by unfold doM; rw [if_neg (by omega), if_neg (by omega), if_neg (by omega)]
    rw [hd] at hRd ⊢
    rw [e, show boxF 4 = 66 from rfl]
    refine FC.mono (c_box4 b p m h1 h5.2 hs.k4 o hok w M (hF.imp fun u h => h.h4) hb hn) ?_
    rintro v w' ⟨a', c', M', rfl, hc', hF', hup, hb', ag⟩
    have hF2 := hF.updD ag hn
    have hl : ∀ k, (M k ∨ M' k) → k < w'.heap.size := fun k hk => hk.elim (hF2.lt k) (hF'.lt k)
    refine ⟨{ p with a4 := a', c4 := c' }, fun k => M k ∨ M' k, rfl, MoS.of hs.k1 hs.k2 hs.k3 hc' hRd, Ft.all (p := { p with a4 := a', c4 := c' }) ((hF2.imp fun u h => h.h1).wid hl fun _ h => .inl h) ((hF2.imp fun u h => h.h2).wid hl fun _ h => .inl h) ((hF2.imp fun u h => h.h3).wid hl fun _ h => .inl h) (hF'.wid hl fun _ h => .inr h), (Up.refl _ _).or hup, hb', ag⟩
def moVC (p : Ph) (m : Mo) : Value := .agg #[.slice p.a1 m.map.length p.c1, .slice p.a2 m.tab.length p.c2, .slice p.a3 m.row.length p.c3, .slice p.a4 m.heap.length p.c4]
/-- an answer: what the containers hold then, and what is told -/
def AnsM (M : Nat → Prop) (w w' : World) (q : Mo × ResT) (u : Value) : Prop := Sub w w' ∧ ∃ p' M', u = .tuple #[moV p' q.1, .agg q.2.cells.toArray] ∧ MoS p' q.1 ∧ Ft M' (fun u => MoR u p' q.1) w' ∧ Up M w M'
theorem c_do (p : Ph) (m : Mo) (hs : MoS p m) (hR : rightM m) (o : OpT) (hok : okP o) (w : World) (M : Nat → Prop) (hF : Ft M (fun u => MoR u p m) w) :
    FC Try.prog 26 [moV p m, .agg o.cells.toArray] w (fun u w' => AnsM M w w' (doM m o) u) := by
  have hbx := box_cases hok
  refine FC.intro Try.func26 rfl Try.ntmps26 rfl ?_
  have S := Sub.refl w
  refine RC.seq ?_
  refine RC.region rfl ?_
  refine RL.box rfl rfl rfl (fun b_2 w_2 e_2 z_2 hb_2 s_2 => ?_)
  have ge_2 := S.le e_2
  have d_hF_b_2 := hF.neNew e_2
  have S := S.trans s_2
  have hF := hF.sub s_2
  have hb_2 : Has w_2 b_2 ([.slice p.a1 m.map.length p.c1, .slice p.a2 m.tab.length p.c2, .slice p.a3 m.row.length p.c3, .slice p.a4 m.heap.length p.c4]) _ := hb_2
  refine RL.box rfl rfl rfl (fun b_3 w_3 e_3 z_3 hb_3 s_3 => ?_)
  have ge_3 := S.le e_3
  have n_2__3 := hb_2.ne e_3
  have d_hF_b_3 := hF.neNew e_3
  have S := S.trans s_3
  have hF := hF.sub s_3
  have hb_2 := hb_2.sub s_3
  have hb_3 : Has w_3 b_3 ([.int .i64 o.box, .int .i64 o.kind, .int .i64 o.a, .int .i64 o.b]) _ := hb_3
  refine RL.alloc ze25 rfl rfl (fun b_4 w_4 e_4 z_4 hb_4 s_4 => ?_)
  have ge_4 := S.le e_4
  have n_2__4 := hb_2.ne e_4
  have n_3__4 := hb_3.ne e_4
  have d_hF_b_4 := hF.neNew e_4
  have S := S.trans s_4
  have hF := hF.sub s_4
  have hb_2 := hb_2.sub s_4
  have hb_3 := hb_3.sub s_4
  refine RL.alloc ze39 rfl rfl (fun b_5 w_5 e_5 z_5 hb_5 s_5 => ?_)
  have ge_5 := S.le e_5
  have n_2__5 := hb_2.ne e_5
  have n_3__5 := hb_3.ne e_5
  have n_4__5 := hb_4.ne e_5
  have d_hF_b_5 := hF.neNew e_5
  have S := S.trans s_5
  have hF := hF.sub s_5
  have hb_2 := hb_2.sub s_5
  have hb_3 := hb_3.sub s_5
  have hb_4 := hb_4.sub s_5
  refine RL.nil (RC.back ?_)
  refine RC.seq ?_
  refine RC.drawD (fun k => k = b_2) [6, 8] w_5.heap.size 9 rfl rfl mxo (fun w1 s2 => ?_)
  have hNN : ∀ k, ((k = b_2) ∨ w_5.heap.size ≤ k) → w.heap.size ≤ k := fun k e => e.elim (fun e => e ▸ ge_2) (fun e => Nat.le_trans S.size e)
  have ent_S := S.size
  have hN0 : ∀ k, w_5.heap.size ≤ k → w.heap.size ≤ k := fun k e => Nat.le_trans S.size e
  have ltD_hF := fun k hk => (hF.ge k hk).2
  have ltD_b_2 := hb_2.lt
  have ltD_b_3 := hb_3.lt
  have ltD_b_4 := hb_4.lt
  have ltD_b_5 := hb_5.lt
  have szD := Nat.le_refl w_5.heap.size
  have S := S.trans s2
  have hF := hF.sub s2
  have hb_2 := hb_2.sub s2
  have hb_3 := hb_3.sub s2
  have hb_4 := hb_4.sub s2
  have hb_5 := hb_5.sub s2
  have szD := Nat.le_trans szD s2.size
  refine RD.take 1 rfl (by kernel_rfl) (by kernel_rfl) (by kernel_rfl) (fun w' s' => .field0 fo34_0 rfl) rfl rfl ?_
  refine RD.take 2 rfl (by kernel_rfl) (by kernel_rfl) (by kernel_rfl) (fun w' s' => .load1 sh3 rfl ((hb_3.step s' (fun e => e.elim (fun e => n_2__3.symm e) (fun e => Nat.not_le.2 ltD_b_3 e))).cell rfl)) rfl rfl ?_
  refine RD.take 3 rfl (by kernel_rfl) (by kernel_rfl) (by kernel_rfl) (fun w' s' => .as (.bin rfl rfl rfl) (wi64 (y := o.box - 1) (by omega) (by omega))) rfl rfl ?_
  refine RD.take 5 rfl (by kernel_rfl) (by kernel_rfl) (by kernel_rfl) (fun w' s' => .loadR ([.int .i64 o.box, .int .i64 o.kind, .int .i64 o.a, .int .i64 o.b]) sh34 rfl (hb_3.step s' (fun e => e.elim (fun e => n_2__3.symm e) (fun e => Nat.not_le.2 ltD_b_3 e))).row rfl) rfl rfl ?_
  refine RD.all [0, 7] (by kernel_rfl) rfl (RDs.cons rfl ?_ (RDs.cons rfl ?_ (RDs.nil)))
  ·
    refine RL.call rfl ok50 (c_boxes w1) rfl rfl ?_
    rintro _ w3 ⟨rfl, s4⟩
    have S := S.trans s4
    have hF := hF.sub s4
    have hb_2 := hb_2.sub s4
    have hb_3 := hb_3.sub s4
    have hb_4 := hb_4.sub s4
    have hb_5 := hb_5.sub s4
    have szD := Nat.le_trans szD s4.size
    refine RD.back s4.agr ?_
    refine RD.take 4 rfl (by kernel_rfl) (by kernel_rfl) (by kernel_rfl) (fun w' s' => .index1 ar82 sh81 rfl rfl (by omega) (boxF_at hok)) rfl rfl ?_
    refine RD.all [6, 7] (by kernel_rfl) rfl (RDs.cons rfl ?_ (RDs.cons rfl ?_ (RDs.nil)))
    ·
      refine RL.callv rfl rfl (us := []) (cs := []) (boxF_ok o.box) (c_box b_2 p m hs hR o hok w3 M hF hb_2 d_hF_b_2) rfl rfl ?_
      rintro _ w5 ⟨p', M', rfl, hs', hF', hup, hb_2', a13⟩
      have d_hF'_b_2 := upNe hup d_hF_b_2 hb_2.lt
      have d_hF'_b_3 := upNe hup d_hF_b_3 hb_3.lt
      have d_hF'_b_4 := upNe hup d_hF_b_4 hb_4.lt
      have d_hF'_b_5 := upNe hup d_hF_b_5 hb_5.lt
      have hup := hup.le S.size
      have S := S.agrN a13 (fun k e => e ▸ ge_2)
      have hF := hF.step a13 (fun k hk e => d_hF_b_2 k hk e)
      have hb_3 := hb_3.step a13 (fun e => n_2__3.symm e)
      have hb_4 := hb_4.step a13 (fun e => n_2__4.symm e)
      have hb_5 := hb_5.step a13 (fun e => n_2__5.symm e)
      have szD := Nat.le_trans szD a13.size
      have hb_2 := hb_2'
      refine RD.backW rfl (a13.mono fun k _ e => .inl e) ?_
      refine RD.all [7] (by kernel_rfl) rfl (RDs.cons rfl ?_ (RDs.nil))
      refine RL.alloc ze39 rfl rfl (fun b_6 w_6 e_6 z_6 hb_6 s_6 => ?_)
      have fr_b_6 : w_5.heap.size ≤ b_6 := by rw [e_6]; exact szD
      have ge_6 := S.le e_6
      have n_3__6 := hb_3.ne e_6
      have n_4__6 := hb_4.ne e_6
      have n_5__6 := hb_5.ne e_6
      have n_2__6 := hb_2.ne e_6
      have d_hF'_b_6 := hF'.neNew e_6
      have S := S.trans s_6
      have hb_3 := hb_3.sub s_6
      have hb_4 := hb_4.sub s_6
      have hb_5 := hb_5.sub s_6
      have szD := Nat.le_trans szD s_6.size
      have hb_2 := hb_2.sub s_6
      have hF' := hF'.sub s_6
      refine RD.back s_6.agr ?_
      refine RD.all [8] (by kernel_rfl) rfl (RDs.cons rfl ?_ (RDs.nil))
      refine RL.store sh39 rfl rfl rfl hb_6 (by exact Nat.le_of_ble_eq_true rfl) (by rfl) rfl (fun w7 z7 hb_6 a7 => ?_)
      have S := S.upd a7 ge_6
      have hb_3 := hb_3.upd a7 n_3__6
      have hb_4 := hb_4.upd a7 n_4__6
      have hb_5 := hb_5.upd a7 n_5__6
      have szD := Nat.le_trans szD a7.size
      have hb_2 := hb_2.upd a7 n_2__6
      have hF' := hF'.updD a7 d_hF'_b_6
      have hb_6 : Has w7 b_6 ([.int .i64 (doM m o).2.e, .int .i64 (doM m o).2.a, .int .i64 (doM m o).2.b]) _ := hb_6.now (by kernel_rfl)
      refine RD.backW rfl (a7.mono fun k _ e => e ▸ (.inr fr_b_6)) ?_
      refine RD.done (by kernel_rfl) (RC.back ?_)
      refine RC.seq ?_
      refine RC.drawD (fun k => k = b_4 ∨ k = b_5) [2, 3] w7.heap.size 4 rfl rfl mxo (fun w8 s9 => ?_)
      have hNN : ∀ k, ((k = b_4 ∨ k = b_5) ∨ w7.heap.size ≤ k) → w.heap.size ≤ k := fun k e => e.elim (fun e => e.elim (fun e => e ▸ ge_4) (fun e => e ▸ ge_5)) (fun e => Nat.le_trans S.size e)
      have ent_S := S.size
      have hN0 : ∀ k, w7.heap.size ≤ k → w.heap.size ≤ k := fun k e => Nat.le_trans S.size e
      have ltD_b_3 := hb_3.lt
      have ltD_b_4 := hb_4.lt
      have ltD_b_5 := hb_5.lt
      have ltD_b_2 := hb_2.lt
      have ltD_hF' := fun k hk => (hF'.ge k hk).2
      have ltD_b_6 := hb_6.lt
      have szD := Nat.le_refl w7.heap.size
      have S := S.trans s9
      have hb_3 := hb_3.sub s9
      have hb_4 := hb_4.sub s9
      have hb_5 := hb_5.sub s9
      have hb_2 := hb_2.sub s9
      have hF' := hF'.sub s9
      have hb_6 := hb_6.sub s9
      have szD := Nat.le_trans szD s9.size
      refine RD.take 0 rfl (by kernel_rfl) (by kernel_rfl) (by kernel_rfl) (fun w' s' => .loadR ([.slice p'.a1 (doM m o).1.map.length p'.c1, .slice p'.a2 (doM m o).1.tab.length p'.c2, .slice p'.a3 (doM m o).1.row.length p'.c3, .slice p'.a4 (doM m o).1.heap.length p'.c4]) sh25 rfl (hb_2.step s' (fun e => e.elim (fun e => e.elim (fun e => n_2__4 e) (fun e => n_2__5 e)) (fun e => Nat.not_le.2 ltD_b_2 e))).row rfl) rfl rfl ?_
      refine RD.take 1 rfl (by kernel_rfl) (by kernel_rfl) (by kernel_rfl) (fun w' s' => .loadR ([.int .i64 (doM m o).2.e, .int .i64 (doM m o).2.a, .int .i64 (doM m o).2.b]) sh39 rfl (hb_6.step s' (fun e => e.elim (fun e => e.elim (fun e => n_4__6.symm e) (fun e => n_5__6.symm e)) (fun e => Nat.not_le.2 ltD_b_6 e))).row rfl) rfl rfl ?_
      refine RD.all [2] (by kernel_rfl) rfl (RDs.cons rfl ?_ (RDs.nil))
      refine RL.store sh25 rfl rfl rfl hb_4 (by exact Nat.le_of_ble_eq_true rfl) (by rfl) rfl (fun w10 z10 hb_4 a10 => ?_)
      have S := S.upd a10 ge_4
      have hb_3 := hb_3.upd a10 n_3__4
      have hb_5 := hb_5.upd a10 n_4__5.symm
      have hb_2 := hb_2.upd a10 n_2__4
      have hF' := hF'.updD a10 d_hF'_b_4
      have hb_6 := hb_6.upd a10 n_4__6.symm
      have szD := Nat.le_trans szD a10.size
      have hb_4 : Has w10 b_4 ([.slice p'.a1 (doM m o).1.map.length p'.c1, .slice p'.a2 (doM m o).1.tab.length p'.c2, .slice p'.a3 (doM m o).1.row.length p'.c3, .slice p'.a4 (doM m o).1.heap.length p'.c4]) _ := hb_4.now (by kernel_rfl)
      refine RD.backW rfl (a10.mono fun k _ e => e ▸ (.inl (.inl rfl))) ?_
      refine RD.all [3] (by kernel_rfl) rfl (RDs.cons rfl ?_ (RDs.nil))
      refine RL.store sh39 rfl rfl rfl hb_5 (by exact Nat.le_of_ble_eq_true rfl) (by rfl) rfl (fun w11 z11 hb_5 a11 => ?_)
      have S := S.upd a11 ge_5
      have hb_3 := hb_3.upd a11 n_3__5
      have hb_4 := hb_4.upd a11 n_4__5
      have hb_2 := hb_2.upd a11 n_2__5
      have hF' := hF'.updD a11 d_hF'_b_5
      have hb_6 := hb_6.upd a11 n_5__6.symm
      have szD := Nat.le_trans szD a11.size
      have hb_5 : Has w11 b_5 ([.int .i64 (doM m o).2.e, .int .i64 (doM m o).2.a, .int .i64 (doM m o).2.b]) _ := hb_5.now (by kernel_rfl)
      refine RD.backW rfl (a11.mono fun k _ e => e ▸ (.inl (.inr (rfl)))) ?_
      refine RD.done (by kernel_rfl) (RC.back ?_)
      refine RC.done (rs := [.cell 4 25, .cell 5 39]) (vs := [_, _]) rfl rfl ⟨⟨_, rfl, .inr ⟨[.slice p'.a1 (doM m o).1.map.length p'.c1, .slice p'.a2 (doM m o).1.tab.length p'.c2, .slice p'.a3 (doM m o).1.row.length p'.c3, .slice p'.a4 (doM m o).1.heap.length p'.c4], sh25, hb_4.row, rfl⟩⟩, ⟨_, rfl, .inr ⟨[.int .i64 (doM m o).2.e, .int .i64 (doM m o).2.a, .int .i64 (doM m o).2.b], sh39, hb_5.row, rfl⟩⟩, trivial⟩ ?_
      -- end 1
      exact ⟨S, p', M', rfl, hs', hF', hup⟩
    ·
      refine RL.alloc ze39 rfl rfl (fun b_6 w_6 e_6 z_6 hb_6 s_6 => ?_)
      have fr_b_6 : w_5.heap.size ≤ b_6 := by rw [e_6]; exact szD
      have ge_6 := S.le e_6
      have n_2__6 := hb_2.ne e_6
      have n_3__6 := hb_3.ne e_6
      have n_4__6 := hb_4.ne e_6
      have n_5__6 := hb_5.ne e_6
      have d_hF_b_6 := hF.neNew e_6
      have S := S.trans s_6
      have hF := hF.sub s_6
      have hb_2 := hb_2.sub s_6
      have hb_3 := hb_3.sub s_6
      have hb_4 := hb_4.sub s_6
      have hb_5 := hb_5.sub s_6
      have szD := Nat.le_trans szD s_6.size
      refine RD.back s_6.agr ?_
      refine RD.all [6] (by kernel_rfl) rfl (RDs.cons rfl ?_ (RDs.nil))
      refine RL.callv rfl rfl (us := []) (cs := []) (boxF_ok o.box) (c_box b_2 p m hs hR o hok w_6 M hF hb_2 d_hF_b_2) rfl rfl ?_
      rintro _ w12 ⟨p', M', rfl, hs', hF', hup, hb_2', a13⟩
      have d_hF'_b_2 := upNe hup d_hF_b_2 hb_2.lt
      have d_hF'_b_3 := upNe hup d_hF_b_3 hb_3.lt
      have d_hF'_b_4 := upNe hup d_hF_b_4 hb_4.lt
      have d_hF'_b_5 := upNe hup d_hF_b_5 hb_5.lt
      have d_hF'_b_6 := upNe hup d_hF_b_6 hb_6.lt
      have hup := hup.le S.size
      have S := S.agrN a13 (fun k e => e ▸ ge_2)
      have hF := hF.step a13 (fun k hk e => d_hF_b_2 k hk e)
      have hb_3 := hb_3.step a13 (fun e => n_2__3.symm e)
      have hb_4 := hb_4.step a13 (fun e => n_2__4.symm e)
      have hb_5 := hb_5.step a13 (fun e => n_2__5.symm e)
      have szD := Nat.le_trans szD a13.size
      have hb_6 := hb_6.step a13 (fun e => n_2__6.symm e)
      have hb_2 := hb_2'
      refine RD.backW rfl (a13.mono fun k _ e => .inl e) ?_
      refine RD.all [8] (by kernel_rfl) rfl (RDs.cons rfl ?_ (RDs.nil))
      refine RL.store sh39 rfl rfl rfl hb_6 (by exact Nat.le_of_ble_eq_true rfl) (by rfl) rfl (fun w14 z14 hb_6 a14 => ?_)
      have S := S.upd a14 ge_6
      have hb_3 := hb_3.upd a14 n_3__6
      have hb_4 := hb_4.upd a14 n_4__6
      have hb_5 := hb_5.upd a14 n_5__6
      have szD := Nat.le_trans szD a14.size
      have hb_2 := hb_2.upd a14 n_2__6
      have hF' := hF'.updD a14 d_hF'_b_6
      have hb_6 : Has w14 b_6 ([.int .i64 (doM m o).2.e, .int .i64 (doM m o).2.a, .int .i64 (doM m o).2.b]) _ := hb_6.now (by kernel_rfl)
      refine RD.backW rfl (a14.mono fun k _ e => e ▸ (.inr fr_b_6)) ?_
      refine RD.done (by kernel_rfl) (RC.back ?_)
      refine RC.seq ?_
      refine RC.drawD (fun k => k = b_4 ∨ k = b_5) [2, 3] w14.heap.size 4 rfl rfl mxo (fun w15 s16 => ?_)
      have hNN : ∀ k, ((k = b_4 ∨ k = b_5) ∨ w14.heap.size ≤ k) → w.heap.size ≤ k := fun k e => e.elim (fun e => e.elim (fun e => e ▸ ge_4) (fun e => e ▸ ge_5)) (fun e => Nat.le_trans S.size e)
      have ent_S := S.size
      have hN0 : ∀ k, w14.heap.size ≤ k → w.heap.size ≤ k := fun k e => Nat.le_trans S.size e
      have ltD_b_3 := hb_3.lt
      have ltD_b_4 := hb_4.lt
      have ltD_b_5 := hb_5.lt
      have ltD_b_6 := hb_6.lt
      have ltD_b_2 := hb_2.lt
      have ltD_hF' := fun k hk => (hF'.ge k hk).2
      have szD := Nat.le_refl w14.heap.size
      have S := S.trans s16
      have hb_3 := hb_3.sub s16
      have hb_4 := hb_4.sub s16
      have hb_5 := hb_5.sub s16
      have hb_6 := hb_6.sub s16
      have hb_2 := hb_2.sub s16
      have hF' := hF'.sub s16
      have szD := Nat.le_trans szD s16.size
      refine RD.take 0 rfl (by kernel_rfl) (by kernel_rfl) (by kernel_rfl) (fun w' s' => .loadR ([.slice p'.a1 (doM m o).1.map.length p'.c1, .slice p'.a2 (doM m o).1.tab.length p'.c2, .slice p'.a3 (doM m o).1.row.length p'.c3, .slice p'.a4 (doM m o).1.heap.length p'.c4]) sh25 rfl (hb_2.step s' (fun e => e.elim (fun e => e.elim (fun e => n_2__4 e) (fun e => n_2__5 e)) (fun e => Nat.not_le.2 ltD_b_2 e))).row rfl) rfl rfl ?_
      refine RD.take 1 rfl (by kernel_rfl) (by kernel_rfl) (by kernel_rfl) (fun w' s' => .loadR ([.int .i64 (doM m o).2.e, .int .i64 (doM m o).2.a, .int .i64 (doM m o).2.b]) sh39 rfl (hb_6.step s' (fun e => e.elim (fun e => e.elim (fun e => n_4__6.symm e) (fun e => n_5__6.symm e)) (fun e => Nat.not_le.2 ltD_b_6 e))).row rfl) rfl rfl ?_
      refine RD.all [2] (by kernel_rfl) rfl (RDs.cons rfl ?_ (RDs.nil))
      refine RL.store sh25 rfl rfl rfl hb_4 (by exact Nat.le_of_ble_eq_true rfl) (by rfl) rfl (fun w17 z17 hb_4 a17 => ?_)
      have S := S.upd a17 ge_4
      have hb_3 := hb_3.upd a17 n_3__4
      have hb_5 := hb_5.upd a17 n_4__5.symm
      have hb_6 := hb_6.upd a17 n_4__6.symm
      have hb_2 := hb_2.upd a17 n_2__4
      have hF' := hF'.updD a17 d_hF'_b_4
      have szD := Nat.le_trans szD a17.size
      have hb_4 : Has w17 b_4 ([.slice p'.a1 (doM m o).1.map.length p'.c1, .slice p'.a2 (doM m o).1.tab.length p'.c2, .slice p'.a3 (doM m o).1.row.length p'.c3, .slice p'.a4 (doM m o).1.heap.length p'.c4]) _ := hb_4.now (by kernel_rfl)
      refine RD.backW rfl (a17.mono fun k _ e => e ▸ (.inl (.inl rfl))) ?_
      refine RD.all [3] (by kernel_rfl) rfl (RDs.cons rfl ?_ (RDs.nil))
      refine RL.store sh39 rfl rfl rfl hb_5 (by exact Nat.le_of_ble_eq_true rfl) (by rfl) rfl (fun w18 z18 hb_5 a18 => ?_)
      have S := S.upd a18 ge_5
      have hb_3 := hb_3.upd a18 n_3__5
      have hb_4 := hb_4.upd a18 n_4__5
      have hb_6 := hb_6.upd a18 n_5__6.symm
      have hb_2 := hb_2.upd a18 n_2__5
      have hF' := hF'.updD a18 d_hF'_b_5
      have szD := Nat.le_trans szD a18.size
      have hb_5 : Has w18 b_5 ([.int .i64 (doM m o).2.e, .int .i64 (doM m o).2.a, .int .i64 (doM m o).2.b]) _ := hb_5.now (by kernel_rfl)
      refine RD.backW rfl (a18.mono fun k _ e => e ▸ (.inl (.inr (rfl)))) ?_
      refine RD.done (by kernel_rfl) (RC.back ?_)
      refine RC.done (rs := [.cell 4 25, .cell 5 39]) (vs := [_, _]) rfl rfl ⟨⟨_, rfl, .inr ⟨[.slice p'.a1 (doM m o).1.map.length p'.c1, .slice p'.a2 (doM m o).1.tab.length p'.c2, .slice p'.a3 (doM m o).1.row.length p'.c3, .slice p'.a4 (doM m o).1.heap.length p'.c4], sh25, hb_4.row, rfl⟩⟩, ⟨_, rfl, .inr ⟨[.int .i64 (doM m o).2.e, .int .i64 (doM m o).2.a, .int .i64 (doM m o).2.b], sh39, hb_5.row, rfl⟩⟩, trivial⟩ ?_
      -- end 2
      exact ⟨S, p', M', rfl, hs', hF', hup⟩
  ·
    refine RL.alloc ze39 rfl rfl (fun b_6 w_6 e_6 z_6 hb_6 s_6 => ?_)
    have fr_b_6 : w_5.heap.size ≤ b_6 := by rw [e_6]; exact szD
    have ge_6 := S.le e_6
    have n_2__6 := hb_2.ne e_6
    have n_3__6 := hb_3.ne e_6
    have n_4__6 := hb_4.ne e_6
    have n_5__6 := hb_5.ne e_6
    have d_hF_b_6 := hF.neNew e_6
    have S := S.trans s_6
    have hF := hF.sub s_6
    have hb_2 := hb_2.sub s_6
    have hb_3 := hb_3.sub s_6
    have hb_4 := hb_4.sub s_6
    have hb_5 := hb_5.sub s_6
    have szD := Nat.le_trans szD s_6.size
    refine RD.back s_6.agr ?_
    refine RD.all [0] (by kernel_rfl) rfl (RDs.cons rfl ?_ (RDs.nil))
    refine RL.call rfl ok50 (c_boxes w_6) rfl rfl ?_
    rintro _ w19 ⟨rfl, s20⟩
    have S := S.trans s20
    have hF := hF.sub s20
    have hb_2 := hb_2.sub s20
    have hb_3 := hb_3.sub s20
    have hb_4 := hb_4.sub s20
    have hb_5 := hb_5.sub s20
    have szD := Nat.le_trans szD s20.size
    have hb_6 := hb_6.sub s20
    refine RD.back s20.agr ?_
    refine RD.take 4 rfl (by kernel_rfl) (by kernel_rfl) (by kernel_rfl) (fun w' s' => .index1 ar82 sh81 rfl rfl (by omega) (boxF_at hok)) rfl rfl ?_
    refine RD.all [6] (by kernel_rfl) rfl (RDs.cons rfl ?_ (RDs.nil))
    refine RL.callv rfl rfl (us := []) (cs := []) (boxF_ok o.box) (c_box b_2 p m hs hR o hok w19 M hF hb_2 d_hF_b_2) rfl rfl ?_
    rintro _ w21 ⟨p', M', rfl, hs', hF', hup, hb_2', a13⟩
    have d_hF'_b_2 := upNe hup d_hF_b_2 hb_2.lt
    have d_hF'_b_3 := upNe hup d_hF_b_3 hb_3.lt
    have d_hF'_b_4 := upNe hup d_hF_b_4 hb_4.lt
    have d_hF'_b_5 := upNe hup d_hF_b_5 hb_5.lt
    have d_hF'_b_6 := upNe hup d_hF_b_6 hb_6.lt
    have hup := hup.le S.size
    have S := S.agrN a13 (fun k e => e ▸ ge_2)
    have hF := hF.step a13 (fun k hk e => d_hF_b_2 k hk e)
    have hb_3 := hb_3.step a13 (fun e => n_2__3.symm e)
    have hb_4 := hb_4.step a13 (fun e => n_2__4.symm e)
    have hb_5 := hb_5.step a13 (fun e => n_2__5.symm e)
    have szD := Nat.le_trans szD a13.size
    have hb_6 := hb_6.step a13 (fun e => n_2__6.symm e)
    have hb_2 := hb_2'
    refine RD.backW rfl (a13.mono fun k _ e => .inl e) ?_
    refine RD.all [8] (by kernel_rfl) rfl (RDs.cons rfl ?_ (RDs.nil))
    refine RL.store sh39 rfl rfl rfl hb_6 (by exact Nat.le_of_ble_eq_true rfl) (by rfl) rfl (fun w23 z23 hb_6 a23 => ?_)
    have S := S.upd a23 ge_6
    have hb_3 := hb_3.upd a23 n_3__6
    have hb_4 := hb_4.upd a23 n_4__6
    have hb_5 := hb_5.upd a23 n_5__6
    have szD := Nat.le_trans szD a23.size
    have hb_2 := hb_2.upd a23 n_2__6
    have hF' := hF'.updD a23 d_hF'_b_6
    have hb_6 : Has w23 b_6 ([.int .i64 (doM m o).2.e, .int .i64 (doM m o).2.a, .int .i64 (doM m o).2.b]) _ := hb_6.now (by kernel_rfl)
    refine RD.backW rfl (a23.mono fun k _ e => e ▸ (.inr fr_b_6)) ?_
    refine RD.done (by kernel_rfl) (RC.back ?_)
    refine RC.seq ?_
    refine RC.drawD (fun k => k = b_4 ∨ k = b_5) [2, 3] w23.heap.size 4 rfl rfl mxo (fun w24 s25 => ?_)
    have hNN : ∀ k, ((k = b_4 ∨ k = b_5) ∨ w23.heap.size ≤ k) → w.heap.size ≤ k := fun k e => e.elim (fun e => e.elim (fun e => e ▸ ge_4) (fun e => e ▸ ge_5)) (fun e => Nat.le_trans S.size e)
    have ent_S := S.size
    have hN0 : ∀ k, w23.heap.size ≤ k → w.heap.size ≤ k := fun k e => Nat.le_trans S.size e
    have ltD_b_3 := hb_3.lt
    have ltD_b_4 := hb_4.lt
    have ltD_b_5 := hb_5.lt
    have ltD_b_6 := hb_6.lt
    have ltD_b_2 := hb_2.lt
    have ltD_hF' := fun k hk => (hF'.ge k hk).2
    have szD := Nat.le_refl w23.heap.size
    have S := S.trans s25
    have hb_3 := hb_3.sub s25
    have hb_4 := hb_4.sub s25
    have hb_5 := hb_5.sub s25
    have hb_6 := hb_6.sub s25
    have hb_2 := hb_2.sub s25
    have hF' := hF'.sub s25
    have szD := Nat.le_trans szD s25.size
    refine RD.take 0 rfl (by kernel_rfl) (by kernel_rfl) (by kernel_rfl) (fun w' s' => .loadR ([.slice p'.a1 (doM m o).1.map.length p'.c1, .slice p'.a2 (doM m o).1.tab.length p'.c2, .slice p'.a3 (doM m o).1.row.length p'.c3, .slice p'.a4 (doM m o).1.heap.length p'.c4]) sh25 rfl (hb_2.step s' (fun e => e.elim (fun e => e.elim (fun e => n_2__4 e) (fun e => n_2__5 e)) (fun e => Nat.not_le.2 ltD_b_2 e))).row rfl) rfl rfl ?_
    refine RD.take 1 rfl (by kernel_rfl) (by kernel_rfl) (by kernel_rfl) (fun w' s' => .loadR ([.int .i64 (doM m o).2.e, .int .i64 (doM m o).2.a, .int .i64 (doM m o).2.b]) sh39 rfl (hb_6.step s' (fun e => e.elim (fun e => e.elim (fun e => n_4__6.symm e) (fun e => n_5__6.symm e)) (fun e => Nat.not_le.2 ltD_b_6 e))).row rfl) rfl rfl ?_
    refine RD.all [2] (by kernel_rfl) rfl (RDs.cons rfl ?_ (RDs.nil))
    refine RL.store sh25 rfl rfl rfl hb_4 (by exact Nat.le_of_ble_eq_true rfl) (by rfl) rfl (fun w26 z26 hb_4 a26 => ?_)
    have S := S.upd a26 ge_4
    have hb_3 := hb_3.upd a26 n_3__4
    have hb_5 := hb_5.upd a26 n_4__5.symm
    have hb_6 := hb_6.upd a26 n_4__6.symm
    have hb_2 := hb_2.upd a26 n_2__4
    have hF' := hF'.updD a26 d_hF'_b_4
    have szD := Nat.le_trans szD a26.size
    have hb_4 : Has w26 b_4 ([.slice p'.a1 (doM m o).1.map.length p'.c1, .slice p'.a2 (doM m o).1.tab.length p'.c2, .slice p'.a3 (doM m o).1.row.length p'.c3, .slice p'.a4 (doM m o).1.heap.length p'.c4]) _ := hb_4.now (by kernel_rfl)
    refine RD.backW rfl (a26.mono fun k _ e => e ▸ (.inl (.inl rfl))) ?_
    refine RD.all [3] (by kernel_rfl) rfl (RDs.cons rfl ?_ (RDs.nil))
    refine RL.store sh39 rfl rfl rfl hb_5 (by exact Nat.le_of_ble_eq_true rfl) (by rfl) rfl (fun w27 z27 hb_5 a27 => ?_)
    have S := S.upd a27 ge_5
    have hb_3 := hb_3.upd a27 n_3__5
    have hb_4 := hb_4.upd a27 n_4__5
    have hb_6 := hb_6.upd a27 n_5__6.symm
    have hb_2 := hb_2.upd a27 n_2__5
    have hF' := hF'.updD a27 d_hF'_b_5
    have szD := Nat.le_trans szD a27.size
    have hb_5 : Has w27 b_5 ([.int .i64 (doM m o).2.e, .int .i64 (doM m o).2.a, .int .i64 (doM m o).2.b]) _ := hb_5.now (by kernel_rfl)
    refine RD.backW rfl (a27.mono fun k _ e => e ▸ (.inl (.inr (rfl)))) ?_
    refine RD.done (by kernel_rfl) (RC.back ?_)
    refine RC.done (rs := [.cell 4 25, .cell 5 39]) (vs := [_, _]) rfl rfl ⟨⟨_, rfl, .inr ⟨[.slice p'.a1 (doM m o).1.map.length p'.c1, .slice p'.a2 (doM m o).1.tab.length p'.c2, .slice p'.a3 (doM m o).1.row.length p'.c3, .slice p'.a4 (doM m o).1.heap.length p'.c4], sh25, hb_4.row, rfl⟩⟩, ⟨_, rfl, .inr ⟨[.int .i64 (doM m o).2.e, .int .i64 (doM m o).2.a, .int .i64 (doM m o).2.b], sh39, hb_5.row, rfl⟩⟩, trivial⟩ ?_
    -- end 3
    exact ⟨S, p', M', rfl, hs', hF', hup⟩
end Go.Proofs.Ytjafbffehmombaa
