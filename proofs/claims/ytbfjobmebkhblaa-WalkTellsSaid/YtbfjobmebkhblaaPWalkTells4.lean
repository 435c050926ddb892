/-
  What the law WalkTells leans on, part 4.
-/
import Derived.Test.YtbfjobmebkhblaaPWalkTells3
set_option linter.unusedVariables false
set_option linter.unusedSimpArgs false
namespace Go.Proofs.Ytbfjobmebkhblaa
open Go Go.XL
section
variable {P : Program} {n : Cx} {F : List (Nat × Value)} {w : World} {p : Post}
/-- the end of a function that holds ranges, whose results lie in cells -/
theorem retMC {fn : Func} {D : Nat} {R : Value → World → Prop} {rs : List ResultVar} {vs : List Value} (hrs : fn.results = rs.toArray) (hp : p.ret = (Post.fnM P fn R).ret) (hD : Df D w) (hv : ∀ w', Agr (· = D) w w' → w'.heap.size = w.heap.size → resVs P F w' rs vs ∧ R (tup vs) w') (hM : n.marks = [markD D] := by rfl) : ∀ a, Knows n F a → p.ret a w := fun a k => by
  rw [hp]
  refine ⟨.inr ⟨D, k.defers.trans hM, hD⟩, ?_⟩
  rintro w' (⟨_, h⟩ | ⟨D', h, e⟩)
  · rw [k.defers.trans hM] at h; cases h
  · rw [k.defers.trans hM] at h
    obtain rfl : D = D' := by
      have := (List.cons.inj h).1
      simp only [markD, Deferred.mk.injEq, Target.collected.injEq] at this
      exact this.1
    subst e
    have h2 := hv (w.putObj D (.deferred none)) agr_put (by simp)
    exact ⟨_, run_results k hrs h2.1, h2.2⟩
theorem RC.doneMC {fn : Func} {D : Nat} {R : Value → World → Prop} {rs : List ResultVar} {vs : List Value} (hrs : fn.results = rs.toArray) (hp : p.ret = (Post.fnM P fn R).ret) (hD : Df D w) (hv : ∀ w', Agr (· = D) w w' → w'.heap.size = w.heap.size → resVs P F w' rs vs ∧ R (tup vs) w') (hM : n.marks = [markD D] := by rfl) : RC P n .ret F w p := RC.ret (retMC hrs hp hD hv hM)
end
/-- how the record stands, where the body may return: b = the loop goes on -/
def recT (r : Loop) (b : Bool) : Loop := { r with state := if b then .ready else .done, pending := if b then none else some .ret }
theorem recT_nb {r : Loop} {b : Bool} : (recT r b).state ≠ .busy := by cases b <;> simp [recT]
theorem recT_pe {r : Loop} {id : Nat} : (recT r true).pending = none ∨ (recT r true).pending = some (.exit id) := .inl rfl
def stFst (p : It → Bool) (s : Option It) (x : It) : Option It × Bool := if p x = true then (some x, false) else (s, true)
theorem push_fst (p : It → Bool) : ∀ l : List It, pushF (stFst p) none l = (l.find? p, (l.find? p).isNone)
  | [] => rfl
  | x :: l => by
    by_cases h : p x = true
    · rw [pushF_f (by rw [stFst, if_pos h]), List.find?_cons_of_pos h, stFst, if_pos h]; rfl
    · rw [pushF_t (by rw [stFst, if_neg h]), List.find?_cons_of_neg h, stFst, if_neg h, push_fst p l]
theorem stFst_cnt (p : It → Bool) (s : Option It) (x : It) : (fun _ : Option It => 0) (stFst p s x).1 ≤ (fun _ : Option It => 0) s + 1 := Nat.zero_le _
def itOf (s : Option It) : It := s.getD ⟨0, 0⟩
/-- how the boxes stand between two rounds -/
def HFst (l : Nat) (rL : Loop) (b5 b6 b7 : Nat) (g : FuncId) (cs : List Value) (MK : Nat → Prop) (K : World → Prop) (s : Option It) (b : Bool) (C : Nat → Prop) (W : World) : Prop :=
  (Lp l (recT rL b) W ∧ Has W b5 [.func (.func g) #[] cs.toArray] 83 ∧ Has W b6 (itOf s).cells 29 ∧ Has W b7 [.int .i64 0] 39 ∧ Ft MK K W) ∧ ∀ k, C k ↔ (k = l ∨ k = b6 ∨ k = b7) ∨ (k = b5 ∨ MK k)
theorem HFst.ft {l : Nat} {rL : Loop} {b5 b6 b7 : Nat} {g : FuncId} {cs : List Value} {MK : Nat → Prop} {K : World → Prop} {s : Option It} {b : Bool} {C : Nat → Prop} {W : World} (hC : ∀ k, C k ↔ (k = l ∨ k = b6 ∨ k = b7) ∨ (k = b5 ∨ MK k))
    (h1 : Lp l (recT rL b) W) (h5 : Has W b5 [.func (.func g) #[] cs.toArray] 83) (h6 : Has W b6 (itOf s).cells 29) (h7 : Has W b7 [.int .i64 0] 39) (hK : Ft MK K W) :
    Ft C (HFst l rL b5 b6 b7 g cs MK K s b C) W := by
  refine ⟨fun k hk => ?_, fun u a => ⟨⟨h1.step a (fun hn => hn ((hC _).2 (.inl (.inl rfl)))), h5.step a (fun hn => hn ((hC _).2 (.inr (.inl rfl)))), h6.step a (fun hn => hn ((hC _).2 (.inl (.inr (.inl rfl))))), h7.step a (fun hn => hn ((hC _).2 (.inl (.inr (.inr rfl))))), hK.step a (fun k hk hn => hn ((hC _).2 (.inr (.inr hk))))⟩, hC⟩⟩
  rcases (hC k).1 hk with (rfl | rfl | rfl) | (rfl | h)
  · exact h1.lt
  · exact h6.lt
  · exact h7.lt
  · exact h5.lt
  · exact hK.lt k h
theorem agrPin {C D MK : Nat → Prop} {K : World → Prop} {w w' : World} (a : Agr C w w') (hC : ∀ k, C k → D k ∨ MK k) (hpin : ∀ u u', K u → K u' → ∀ k, MK k → u'.heap[k]? = u.heap[k]?) (h : K w) (h' : K w') : Agr D w w' :=
  ⟨a.os, a.tape, a.output, a.size, fun k hk hn => by
    by_cases hm : MK k
    · exact hpin _ _ h h' k hm
    · exact a.block k hk (fun hc => (hC k hc).elim hn hm)⟩
theorem c_wfirst (A : Ar) (na fa : Option Addr) (nc fc : Nat) (hnc : A.nodes.length ≤ nc) (hfc : A.free.length ≤ fc) (r : Int) (hr : U64 r) (g : FuncId) (hg : calleeOK Try.prog g = true) (cs : List Value) (p : It → Bool) (M MK : Nat → Prop) (K : World → Prop) (w : World) (hA : Ft M (fun u => ArR u na fa A) w) (hK : Ft MK K w) (hMK : ∀ k, M k → ¬ MK k) (hpin : ∀ u u', K u → K u' → ∀ k, MK k → u'.heap[k]? = u.heap[k]?)
    (hp : ∀ (x : It) (u : World), x.ok → K u → FC Try.prog g ([x.val] ++ cs) u (Val (.bool (p x)) u)) :
    FC Try.prog 46 [arV na fa nc fc A, .int .u64 r, .func (.func g) #[] cs.toArray] w (fun v w' => Sub w w' ∧ ∃ x e, v = .tuple #[x.val, .int .i64 e] ∧ (¬ isTab A r → x = ⟨0, 0⟩ ∧ e = 1) ∧ (isTab A r → (∃ y, (rowH A r).find? p = some y ∧ x = y ∧ e = 0) ∨ ((rowH A r).find? p = none ∧ x = ⟨0, 0⟩ ∧ e = 3))) := by
  have hNd := hA.now.nodes
  have hFr := hA.now.free
  refine FC.introM Try.func46 rfl Try.ntmps46 rfl ?_
  have S := Sub.refl w
  refine RC.seq ?_
  refine RC.region rfl ?_
  refine RL.box rfl rfl rfl (fun b_3 w_3 e_3 z_3 hb_3 s_3 => ?_)
  have ge_3 := S.le e_3
  have d_hK_b_3 := hK.neNew e_3
  have d_hA_b_3 := hA.neNew e_3
  have S := S.trans s_3
  have hK := hK.sub s_3
  have hA := hA.sub s_3
  have hb_3 : Has w_3 b_3 ([.slice na A.nodes.length nc, .slice fa A.free.length fc]) _ := hb_3
  refine RL.box rfl rfl rfl (fun b_5 w_5 e_5 z_5 hb_5 s_5 => ?_)
  have ge_5 := S.le e_5
  have n_3__5 := hb_3.ne e_5
  have d_hK_b_5 := hK.neNew e_5
  have d_hA_b_5 := hA.neNew e_5
  have S := S.trans s_5
  have hK := hK.sub s_5
  have hA := hA.sub s_5
  have hb_3 := hb_3.sub s_5
  refine RL.alloc ze29 rfl rfl (fun b_6 w_6 e_6 z_6 hb_6 s_6 => ?_)
  have ge_6 := S.le e_6
  have n_3__6 := hb_3.ne e_6
  have n_5__6 := hb_5.ne e_6
  have d_hK_b_6 := hK.neNew e_6
  have d_hA_b_6 := hA.neNew e_6
  have S := S.trans s_6
  have hK := hK.sub s_6
  have hA := hA.sub s_6
  have hb_3 := hb_3.sub s_6
  have hb_5 := hb_5.sub s_6
  refine RL.alloc ze39 rfl rfl (fun b_7 w_7 e_7 z_7 hb_7 s_7 => ?_)
  have ge_7 := S.le e_7
  have n_3__7 := hb_3.ne e_7
  have n_5__7 := hb_5.ne e_7
  have n_6__7 := hb_6.ne e_7
  have d_hK_b_7 := hK.neNew e_7
  have d_hA_b_7 := hA.neNew e_7
  have S := S.trans s_7
  have hK := hK.sub s_7
  have hA := hA.sub s_7
  have hb_3 := hb_3.sub s_7
  have hb_5 := hb_5.sub s_7
  have hb_6 := hb_6.sub s_7
  refine RL.nil (RC.back ?_)
  refine RC.seq ?_
  refine RC.seq ?_
  refine RC.region rfl ?_
  refine RL.ev (.loadR ([.slice na A.nodes.length nc, .slice fa A.free.length fc]) sh34 rfl hb_3.row rfl) rfl rfl ?_
  refine RL.ev (.move rfl) rfl rfl ?_
  refine RL.call rfl ok42 (c_hRight A na fa nc fc hnc hfc r hr w_7 hA.now) rfl rfl ?_
  rintro _ w1 ⟨rfl, s2⟩
  have S := S.trans s2
  have hK := hK.sub s2
  have hA := hA.sub s2
  have hb_3 := hb_3.sub s2
  have hb_5 := hb_5.sub s2
  have hb_6 := hb_6.sub s2
  have hb_7 := hb_7.sub s2
  refine RL.ev (.not rfl) rfl rfl ?_
  refine RL.nil (RC.back ?_)
  refine RC.cond rfl (fun h3 => ?_) (fun h3 => ?_)
  ·
    have hno : ¬ isTab A r := (fun h => by have h2 := h3; rw [isTabB_yes h] at h2; cases h2)
    refine RC.seq ?_
    refine RC.region rfl ?_
    refine RL.ev (.buildS ze29 pl29 rfl rfl) rfl rfl ?_
    refine RL.store sh29 rfl rfl rfl hb_6 (by exact Nat.le_of_ble_eq_true rfl) (by rfl) rfl (fun w4 z4 hb_6 a4 => ?_)
    have S := S.upd a4 ge_6
    have hK := hK.updD a4 d_hK_b_6
    have hA := hA.updD a4 d_hA_b_6
    have hb_3 := hb_3.upd a4 n_3__6
    have hb_5 := hb_5.upd a4 n_5__6
    have hb_7 := hb_7.upd a4 n_6__7.symm
    have hb_6 : Has w4 b_6 ((⟨0, 0⟩ : It).cells) _ := hb_6.now (by kernel_rfl)
    refine RL.store sh39 rfl rfl rfl hb_7 (by exact Nat.le_of_ble_eq_true rfl) (by rfl) rfl (fun w5 z5 hb_7 a5 => ?_)
    have S := S.upd a5 ge_7
    have hK := hK.updD a5 d_hK_b_7
    have hA := hA.updD a5 d_hA_b_7
    have hb_3 := hb_3.upd a5 n_3__7
    have hb_5 := hb_5.upd a5 n_5__7
    have hb_6 := hb_6.upd a5 n_6__7
    refine RL.nil (RC.back ?_)
    refine RC.doneM0 (rs := [.cell 6 29, .cell 7 39]) (vs := [_, _]) rfl rfl ⟨⟨_, rfl, .inr ⟨(⟨0, 0⟩ : It).cells, sh29, hb_6.row, rfl⟩⟩, ⟨_, rfl, .inl ⟨_, sh39, (hb_7.cell rfl)⟩⟩, trivial⟩ ?_
    -- end 1
    exact ⟨S, ⟨0, 0⟩, 1, rfl, fun _ => ⟨rfl, rfl⟩, fun h => absurd h hno⟩
  ·
    have hyes : isTab A r := (isTabB_iff A r).1 (by simpa using h3)
    obtain ⟨_, L, hT, hap, hl⟩ := id hyes
    refine RC.skip (RC.back ?_)
    refine RC.seq ?_
    refine RC.seq ?_
    refine RC.region rfl ?_
    refine RL.ev (.loadR ([.slice na A.nodes.length nc, .slice fa A.free.length fc]) sh34 rfl hb_3.row rfl) rfl rfl ?_
    refine RL.ev (.move rfl) rfl rfl ?_
    refine RL.call rfl ok49 (c_wleaves A na fa nc fc r w1) rfl rfl ?_
    rintro _ w6 ⟨bA, bR, rfl, hbA, hbR, s7⟩
    have S := S.trans s7
    have hK := hK.sub s7
    have hA := hA.sub s7
    have hb_3 := hb_3.sub s7
    have hb_5 := hb_5.sub s7
    have hb_6 := hb_6.sub s7
    have hb_7 := hb_7.sub s7
    obtain ⟨E, hE⟩ : ∃ E, E = w6.heap.size := ⟨_, rfl⟩
    refine RL.nil (RC.back ?_)
    refine RC.range (cs := [_, _]) rfl ok74 ?_
    intro rL W1 hst hpe hps hasg hbd hk1 s1 z1 hL hD
    obtain ⟨b_D, eD⟩ : ∃ D, D = w6.heap.size := ⟨_, rfl⟩
    rw [← eD] at hk1 z1 hL hD ⊢
    obtain ⟨b_l, el⟩ : ∃ l, l = b_D + 1 := ⟨_, rfl⟩
    rw [← el] at hk1 hL ⊢
    have n_D_l : b_D ≠ b_l := by omega
    have ge_D : _ ≤ b_D := Nat.le_trans S.size (by omega)
    have ge_l : _ ≤ b_l := Nat.le_trans S.size (by omega)
    have d_hK_b_D : ∀ k, _ → k ≠ b_D := fun k hk e => by have := (hK.ge k hk).2; omega
    have d_hK_b_l : ∀ k, _ → k ≠ b_l := fun k hk e => by have := (hK.ge k hk).2; omega
    have d_hA_b_D : ∀ k, _ → k ≠ b_D := fun k hk e => by have := (hA.ge k hk).2; omega
    have d_hA_b_l : ∀ k, _ → k ≠ b_l := fun k hk e => by have := (hA.ge k hk).2; omega
    have nb_3_b_D : b_3 ≠ b_D := fun e => by have := hb_3.lt; omega
    have nb_3_b_l : b_3 ≠ b_l := fun e => by have := hb_3.lt; omega
    have nb_5_b_D : b_5 ≠ b_D := fun e => by have := hb_5.lt; omega
    have nb_5_b_l : b_5 ≠ b_l := fun e => by have := hb_5.lt; omega
    have nb_6_b_D : b_6 ≠ b_D := fun e => by have := hb_6.lt; omega
    have nb_6_b_l : b_6 ≠ b_l := fun e => by have := hb_6.lt; omega
    have nb_7_b_D : b_7 ≠ b_D := fun e => by have := hb_7.lt; omega
    have nb_7_b_l : b_7 ≠ b_l := fun e => by have := hb_7.lt; omega
    have nbA_b_D : bA ≠ b_D := fun e => by have := hbA.lt; omega
    have nbA_b_l : bA ≠ b_l := fun e => by have := hbA.lt; omega
    have nbR_b_D : bR ≠ b_D := fun e => by have := hbR.lt; omega
    have nbR_b_l : bR ≠ b_l := fun e => by have := hbR.lt; omega
    have S := S.trans s1
    have hK := hK.sub s1
    have hA := hA.sub s1
    have hb_3 := hb_3.sub s1
    have hb_5 := hb_5.sub s1
    have hb_6 := hb_6.sub s1
    have hb_7 := hb_7.sub s1
    have hbA := hbA.sub s1
    have hbR := hbR.sub s1
    rw [recB_0 (id := 0) hst hpe] at hL
    have hY : YT Try.prog b_l It.val It.ok (fun _ => 0) 200 (HFst b_l rL b_5 b_6 b_7 g cs MK K) (stFst p) := by
      intro s x C W hx hcn hH
      obtain ⟨⟨hL, hb_5, hb_6, hb_7, hK⟩, hC⟩ := hH.now
      have G : Agr (fun k => k = b_l ∨ k = b_6 ∨ k = b_7) W W := Agr.refl _ _
      refine FY.intro (m := 23) (F := upd _ (some 17) x.val) [0] hL rfl (by show 1 = rL.params.size; rw [hps]; rfl) (knows1 hps hk1 rfl) ?_
      show RC _ _ rL.assign _ _ _
      rw [hasg]
      refine RC.region rfl ?_
      refine RL.alloc ze29 rfl rfl (fun b_8 w_8 e_8 z_8 hb_8 s_8 => ?_)
      have n_l__8 := hL.ne e_8
      have n_5__8 := hb_5.ne e_8
      have n_6__8 := hb_6.ne e_8
      have n_7__8 := hb_7.ne e_8
      have d_hK_b_8 := hK.neNew e_8
      have hL := hL.sub s_8
      have hb_5 := hb_5.sub s_8
      have hb_6 := hb_6.sub s_8
      have hb_7 := hb_7.sub s_8
      have hK := hK.sub s_8
      have geG_8 := agLe G e_8
      have G := G.trans s_8.agr
      refine RL.store sh29 rfl rfl rfl hb_8 (by exact Nat.le_of_ble_eq_true rfl) (by rfl) rfl (fun w8 z8 hb_8 a8 => ?_)
      have hL := hL.upd a8 n_l__8
      have hb_5 := hb_5.upd a8 n_5__8
      have hb_6 := hb_6.upd a8 n_6__8
      have hb_7 := hb_7.upd a8 n_7__8
      have hK := hK.updD a8 d_hK_b_8
      have G := agNew G a8 geG_8
      have hb_8 : Has w8 b_8 (x.cells) _ := hb_8.now (by kernel_rfl)
      refine RL.nil (RC.begin hL ?_)
      intro w9 a9 z9 hL
      have hb_5 := hb_5.step a9 (fun e => nb_5_b_l e)
      have hb_6 := hb_6.step a9 (fun e => nb_6_b_l e)
      have hb_7 := hb_7.step a9 (fun e => nb_7_b_l e)
      have hK := hK.step a9 (fun k hk e => d_hK_b_l k hk e)
      have G := G.trans (a9.mono fun k _ e => .inl e)
      have hb_8 := hb_8.step a9 (fun e => n_l__8.symm e)
      show RC _ _ rL.body _ _ _
      rw [hbd]
      refine RC.block ?_
      refine RC.seq ?_
      refine RC.region rfl ?_
      refine RL.ev (.load1 sh83 rfl (hb_5.cell rfl)) rfl rfl ?_
      refine RL.ev (.loadR (x.cells) sh29 rfl hb_8.row rfl) rfl rfl ?_
      refine RL.callv rfl rfl (us := []) (cs := cs) hg (hp x w9 hx hK.now) rfl rfl ?_
      rintro _ w10 ⟨rfl, s11⟩
      have hb_5 := hb_5.sub s11
      have hb_6 := hb_6.sub s11
      have hb_7 := hb_7.sub s11
      have hK := hK.sub s11
      have G := G.trans s11.agr
      have hb_8 := hb_8.sub s11
      have hL := hL.sub s11
      refine RL.nil (RC.back ?_)
      refine RC.cond rfl (fun h12 => ?_) (fun h12 => ?_)
      ·
        have q1 := h12
        refine RC.seq ?_
        refine RC.region rfl ?_
        refine RL.ev (.loadR (x.cells) sh29 rfl hb_8.row rfl) rfl rfl ?_
        refine RL.store sh29 rfl rfl rfl hb_6 (by exact Nat.le_of_ble_eq_true rfl) (by rfl) rfl (fun w13 z13 hb_6 a13 => ?_)
        have hb_5 := hb_5.upd a13 n_5__6
        have hb_7 := hb_7.upd a13 n_6__7.symm
        have hK := hK.updD a13 d_hK_b_6
        have G := G.trans (a13.mono fun k _ e => .inr (.inl e))
        have hb_8 := hb_8.upd a13 n_6__8.symm
        have hL := hL.upd a13 nb_6_b_l.symm
        have hb_6 : Has w13 b_6 (x.cells) _ := hb_6.now (by kernel_rfl)
        refine RL.store sh39 rfl rfl rfl hb_7 (by exact Nat.le_of_ble_eq_true rfl) (by rfl) rfl (fun w14 z14 hb_7 a14 => ?_)
        have hb_5 := hb_5.upd a14 n_5__7
        have hb_6 := hb_6.upd a14 n_6__7
        have hK := hK.updD a14 d_hK_b_7
        have G := G.trans (a14.mono fun k _ e => .inr (.inr (e)))
        have hb_8 := hb_8.upd a14 n_7__8.symm
        have hL := hL.upd a14 nb_7_b_l.symm
        have hb_7 : Has w14 b_7 ([.int .i64 0]) _ := hb_7
        refine RL.nil (RC.back ?_)
        refine RC.ret (RC.endr (j := some .ret) hL ?_)
        intro w15 a15 z15 hL
        have hb_5 := hb_5.step a15 (fun e => nb_5_b_l e)
        have hb_6 := hb_6.step a15 (fun e => nb_6_b_l e)
        have hb_7 := hb_7.step a15 (fun e => nb_7_b_l e)
        have hK := hK.step a15 (fun k hk e => d_hK_b_l k hk e)
        have G := G.trans (a15.mono fun k _ e => .inl e)
        have hb_8 := hb_8.step a15 (fun e => n_l__8.symm e)
        -- round end 1
        rw [show stFst p s x = (some x, false) from if_pos q1]
        exact ⟨C, rfl, HFst.ft hC hL hb_5 hb_6 hb_7 hK, G.mono fun k _ e => (hC k).2 (.inl e), Up.refl _ _⟩
      ·
        have q1 := h12
        refine RC.skip (RC.endr (j := none) hL ?_)
        intro w16 a16 z16 hL
        have hb_5 := hb_5.step a16 (fun e => nb_5_b_l e)
        have hb_6 := hb_6.step a16 (fun e => nb_6_b_l e)
        have hb_7 := hb_7.step a16 (fun e => nb_7_b_l e)
        have hK := hK.step a16 (fun k hk e => d_hK_b_l k hk e)
        have G := G.trans (a16.mono fun k _ e => .inl e)
        have hb_8 := hb_8.step a16 (fun e => n_l__8.symm e)
        -- round end 2
        rw [show stFst p s x = (s, true) from by rw [stFst, if_neg (by simp [q1])]]
        exact ⟨C, rfl, HFst.ft hC hL hb_5 hb_6 hb_7 hK, G.mono fun k _ e => (hC k).2 (.inl e), Up.refl _ _⟩
    refine FC.mono (c_wleaves1 b_l _ _ _ _ (stFst_cnt p) hY A na fa nc fc r hr L hT none (fun k => (k = b_l ∨ k = b_6 ∨ k = b_7) ∨ (k = b_5 ∨ MK k)) M bA bR W1 (by show 0 + L.length ≤ 200; omega) hA (fun k hk e => by rcases e with (e | e | e) | (e | e); exact d_hA_b_l k hk e; exact d_hA_b_6 k hk e; exact d_hA_b_7 k hk e; exact d_hA_b_5 k hk e; exact hMK k hk e) (HFst.ft (fun _ => Iff.rfl) hL hb_5 hb_6 hb_7 hK) hbA hbR) ?_
    rintro _ W2 ⟨C2, hH, ag, up⟩
    have hK0 := hK.now
    rw [push_fst] at hH
    obtain ⟨⟨hL, hb_5, hb_6, hb_7, hK⟩, hC⟩ := hH.now
    have ag := agrPin (D := fun k => k = b_l ∨ k = b_6 ∨ k = b_7 ∨ k = b_5) ag (fun k e => by rcases e with (e | e | e) | (e | e); exact .inl (.inl e); exact .inl (.inr (.inl e)); exact .inl (.inr (.inr (.inl e))); exact .inl (.inr (.inr (.inr e))); exact .inr e) hpin hK0 hK.now
    have hDC : ¬ (b_D = b_l ∨ b_D = b_6 ∨ b_D = b_7 ∨ b_D = b_5) := (fun e => by rcases e with e | e | e | e <;> omega)
    have S := S.agrN ag (fun k e => by rcases e with e | e | e | e <;> omega)
    have hD := hD.step ag hDC
    obtain ⟨bb, hbb⟩ : ∃ bb, ((rowH A r).find? p).isNone = bb := ⟨_, rfl⟩
    rw [hbb] at hL 
    cases bb
    ·
      obtain ⟨y, hy⟩ : ∃ y, (rowH A r).find? p = some y := (by cases q : (rowH A r).find? p with | none => rw [q] at hbb; cases hbb | some y => exact ⟨y, rfl⟩)
      rw [hy] at hb_6
      have hb_6 : Has W2 b_6 y.cells 29 := hb_6
      refine ⟨_, hL, recT_nb, fun W3 a3 z3 => .inr ⟨rfl, ?_⟩⟩
      have S := S.agrN a3 (fun k e => e ▸ ge_l)
      have hb_6 := hb_6.step a3 (fun e => nb_6_b_l e)
      have hb_7 := hb_7.step a3 (fun e => nb_7_b_l e)
      have hD := hD.step a3 (fun e => n_D_l e)
      refine retMC (rs := [.cell 6 29, .cell 7 39]) (vs := [y.val, .int .i64 0]) rfl rfl hD (fun w17 a17 z17 => ?_)
      have S := S.agrN a17 (fun k e => e ▸ ge_D)
      have hb_6 := hb_6.step a17 (fun e => nb_6_b_D e)
      have hb_7 := hb_7.step a17 (fun e => nb_7_b_D e)
      refine ⟨⟨⟨_, rfl, .inr ⟨y.cells, sh29, hb_6.row, rfl⟩⟩, ⟨_, rfl, .inl ⟨_, sh39, (hb_7.cell rfl)⟩⟩, trivial⟩, ?_⟩
      -- end 2
      exact ⟨S, y, 0, rfl, fun h => absurd hyes h, fun _ => .inl ⟨y, hy, rfl, rfl⟩⟩
    ·
      have hn : (rowH A r).find? p = none := (by cases q : (rowH A r).find? p with | none => rfl | some y => rw [q] at hbb; cases hbb)
      refine ⟨_, hL, recT_nb, fun W3 a3 z3 => .inl ⟨recT_pe, RC.backM ?_⟩⟩
      have S := S.agrN a3 (fun k e => e ▸ ge_l)
      have hb_6 := hb_6.step a3 (fun e => nb_6_b_l e)
      have hb_7 := hb_7.step a3 (fun e => nb_7_b_l e)
      have hD := hD.step a3 (fun e => n_D_l e)
      refine RC.seq ?_
      refine RC.region rfl ?_
      refine RL.ev (.buildS ze29 pl29 rfl rfl) rfl rfl ?_
      refine RL.store sh29 rfl rfl rfl hb_6 (by exact Nat.le_of_ble_eq_true rfl) (by rfl) rfl (fun w18 z18 hb_6 a18 => ?_)
      have S := S.upd a18 ge_6
      have hb_7 := hb_7.upd a18 n_6__7.symm
      have hD := hD.upd a18 nb_6_b_D.symm
      have hb_6 : Has w18 b_6 ((⟨0, 0⟩ : It).cells) _ := hb_6.now (by kernel_rfl)
      refine RL.store sh39 rfl rfl rfl hb_7 (by exact Nat.le_of_ble_eq_true rfl) (by rfl) rfl (fun w19 z19 hb_7 a19 => ?_)
      have S := S.upd a19 ge_7
      have hb_6 := hb_6.upd a19 n_6__7
      have hD := hD.upd a19 nb_7_b_D.symm
      refine RL.nil (RC.back ?_)
      refine RC.doneMC (rs := [.cell 6 29, .cell 7 39]) (vs := [(⟨0, 0⟩ : It).val, .int .i64 3]) rfl rfl hD (fun w20 a20 z20 => ?_)
      have S := S.agrN a20 (fun k e => e ▸ ge_D)
      have hb_6 := hb_6.step a20 (fun e => nb_6_b_D e)
      have hb_7 := hb_7.step a20 (fun e => nb_7_b_D e)
      refine ⟨⟨⟨_, rfl, .inr ⟨(⟨0, 0⟩ : It).cells, sh29, hb_6.row, rfl⟩⟩, ⟨_, rfl, .inl ⟨_, sh39, (hb_7.cell rfl)⟩⟩, trivial⟩, ?_⟩
      -- end 3
      exact ⟨S, ⟨0, 0⟩, 3, rfl, fun h => absurd hyes h, fun _ => .inr ⟨hn, rfl, rfl⟩⟩
end Go.Proofs.Ytbfjobmebkhblaa
set_option linter.unusedVariables false
set_option linter.unusedSimpArgs false
namespace Go.Proofs.Ytbfjobmebkhblaa
open Go Go.XL
/-- which key comes ahead, with so many levels left -/
def lessF (a b : Int) : Nat → Bool
  | 0 => decide (a < b)
  | n + 1 => if dig a (9 - n) = dig b (9 - n) then lessF a b n else decide (dig a (9 - n) < dig b (9 - n))
def lessK (a b : Int) : Bool := lessF a b 10
theorem lessF_irrefl (a : Int) : ∀ n, lessF a a n = false
  | 0 => decide_eq_false (by omega)
  | n + 1 => by rw [lessF, if_pos rfl]; exact lessF_irrefl a n
theorem lessK_irrefl (a : Int) : lessK a a = false := lessF_irrefl a 10
/-- a row in that order -/
def Wl (l : List It) : Prop := l.Pairwise fun x y => lessK x.k y.k = true
theorem Wl.ap {l : List It} (h : Wl l) : Ap l := List.Pairwise.imp (fun h e => by rw [e, lessK_irrefl] at h; cases h) h
/-- keys of a table stand in that order -/
theorem row_wl {A : Ar} : ∀ {k : Nat} {r : Int} {L : List It}, IsH A k r L → k ≤ 10 → (rdF A (k + 2) r).Pairwise fun x y => lessF x.k y.k k = true
  | k, r, L, h, hk => by
    rcases row_cases L with rfl | ⟨x, rfl⟩ | h2
    · rw [isH_nil.1 h, rdF_no (getA_z A)]; exact List.Pairwise.nil
    · rw [rdF_leaf (isH_one.1 h)]; exact List.pairwise_singleton _ _
    · cases k with
      | zero =>
        obtain ⟨y, m, q1, q2, _, _, q5, _, q6, q7, q8⟩ := clash_node ((isH_clash h2).1 h) h2
        rw [rd_clash (f := 0) q1 q2 q6 q7 q8]
        exact List.Pairwise.imp (fun h => decide_eq_true h) q5
      | succ k =>
        obtain ⟨y, q1, q2, _, q4, q5⟩ := trie_zero h h2
        rw [show k + 1 + 2 = (k + 2) + 1 by omega, rdF_node q1 (by omega), kids4 q5 _ (rdF_no (getA_z A))]
        have hm : ∀ i, i < 4 → ∀ z ∈ rdF A (k + 2) (y.kids.getD i 0), dig z.k (9 - k) = i := fun i hi z hz => (ofL_mem.1 ((rd_perm (f := 0) (q4 i hi)).mem_iff.1 hz)).2
        have hs : ∀ i, i < 4 → (rdF A (k + 2) (y.kids.getD i 0)).Pairwise fun x y => lessF x.k y.k (k + 1) = true := fun i hi => by
          refine List.Pairwise.imp_of_mem ?_ (row_wl (q4 i hi) (by omega))
          intro a b ha hb hab
          rw [lessF, if_pos ((hm i hi a ha).trans (hm i hi b hb).symm)]; exact hab
        have hx : ∀ i j, i < j → j < 4 → ∀ a ∈ rdF A (k + 2) (y.kids.getD i 0), ∀ b ∈ rdF A (k + 2) (y.kids.getD j 0), lessF a.k b.k (k + 1) = true := fun i j hij hj a ha b hb => by
          rw [lessF, if_neg (by rw [hm i (by omega) a ha, hm j hj b hb]; omega), hm i (by omega) a ha, hm j hj b hb]
          exact decide_eq_true hij
        refine List.pairwise_append.2 ⟨hs 0 (by omega), List.pairwise_append.2 ⟨hs 1 (by omega), List.pairwise_append.2 ⟨hs 2 (by omega), hs 3 (by omega), hx 2 3 (by omega) (by omega)⟩, fun a ha b hb => ?_⟩, fun a ha b hb => ?_⟩
        · rcases List.mem_append.1 hb with hb | hb
          · exact hx 1 2 (by omega) (by omega) a ha b hb
          · exact hx 1 3 (by omega) (by omega) a ha b hb
        · rcases List.mem_append.1 hb with hb | hb
          · exact hx 0 1 (by omega) (by omega) a ha b hb
          · rcases List.mem_append.1 hb with hb | hb
            · exact hx 0 2 (by omega) (by omega) a ha b hb
            · exact hx 0 3 (by omega) (by omega) a ha b hb
theorem rowH_wl {A : Ar} {r : Int} {L : List It} (h : IsH A 10 r L) : Wl (rowH A r) := row_wl h (Nat.le_refl _)
theorem rem4 (n : Nat) : ((n : Nat) : Int).tmod 4 = ((n % 4 : Nat) : Int) := by rw [Int.tmod_eq_emod_of_nonneg (Int.natCast_nonneg _)]; rfl
theorem c_wLess (a b : Int) (w : World) : FC Try.prog 14 [.int .i64 a, .int .i64 b] w (Val (.bool (lessK a b)) w) := by
  have ha := hashOf_lt a
  have hb := hashOf_lt b
  refine FC.intro Try.func14 rfl Try.ntmps14 rfl ?_
  have S := Sub.refl w
  refine RC.seq ?_
  refine RC.region rfl ?_
  refine RL.ev (.assign rfl) rfl rfl ?_
  refine RL.nil (RC.back ?_)
  refine RC.seq ?_
  refine RC.region rfl ?_
  refine RL.ev (.move rfl) rfl rfl ?_
  refine RL.call rfl ok43 (c_hash a w) rfl rfl ?_
  rintro _ w1 ⟨rfl, s2⟩
  have S := S.trans s2
  refine RL.ev (.move rfl) rfl rfl ?_
  refine RL.call rfl ok43 (c_hash b w1) rfl rfl ?_
  rintro _ w3 ⟨rfl, s4⟩
  have S := S.trans s4
  refine RL.ev (.as (v' := .int .i64 ((hashOf a / 4 ^ 0 : Nat) : Int)) (.assign rfl) (by rw [Nat.pow_zero, Nat.div_one])) rfl rfl ?_
  refine RL.ev (.as (v' := .int .i64 ((hashOf b / 4 ^ 0 : Nat) : Int)) (.assign rfl) (by rw [Nat.pow_zero, Nat.div_one])) rfl rfl ?_
  refine RL.nil (RC.back ?_)
  refine RC.seq ?_
  refine RC.seq ?_
  refine RC.region rfl ?_
  refine RL.ev (.move rfl) rfl rfl ?_
  refine RL.nil (RC.back ?_)
  refine RC.block ?_
  refine RC.loop (α := Nat) (fun i => [(0, .int .i64 a), (1, .int .i64 b), (5, .int .i64 ((hashOf a / 4 ^ i : Nat) : Int)), (6, .int .i64 ((hashOf b / 4 ^ i : Nat) : Int)), (11, .int .i64 (i : Int))]) (fun i w5 => (i ≤ 10 ∧ lessK a b = lessF a b (10 - i)) ∧ Sub w w5) (fun i => 10 - i) 0 (keep_of (by repeat (first | exact trivial | refine And.intro rfl ?_))) (⟨⟨Nat.zero_le _, rfl⟩, S⟩) (fun i w5 hJ => ?_)
  obtain ⟨⟨hi, he⟩, S⟩ := hJ; have hpa : hashOf a / 4 ^ i ≤ hashOf a := Nat.div_le_self _ _; have hpb : hashOf b / 4 ^ i ≤ hashOf b := Nat.div_le_self _ _; have hqa : hashOf a / 4 ^ (i + 1) ≤ hashOf a := Nat.div_le_self _ _; have hqb : hashOf b / 4 ^ (i + 1) ≤ hashOf b := Nat.div_le_self _ _
  refine RC.seq ?_
  refine RC.region rfl ?_
  refine RL.ev (.bin rfl rfl rfl) rfl rfl ?_
  refine RL.nil (RC.back ?_)
  refine RC.seq ?_
  refine RC.cond_dec rfl (fun h6 => ?_) (fun h6 => ?_)
  ·
    have hs : 10 - i = (9 - i) + 1 := (by omega)
    have h9 : 9 - (9 - i) = i := (by omega)
    refine RC.skip (RC.back ?_)
    refine RC.seq ?_
    refine RC.block ?_
    refine RC.seq ?_
    refine RC.seq ?_
    refine RC.region rfl ?_
    refine RL.ev (.move rfl) rfl rfl ?_
    refine RL.ev (.as (v' := .int .i64 (dig a i : Nat)) (.rem rfl rfl (by decide)) (by rw [rem4]; rfl)) rfl rfl ?_
    refine RL.ev (.move rfl) rfl rfl ?_
    refine RL.ev (.as (v' := .int .i64 (dig b i : Nat)) (.rem rfl rfl (by decide)) (by rw [rem4]; rfl)) rfl rfl ?_
    refine RL.ev (.bin rfl rfl rfl) rfl rfl ?_
    refine RL.nil (RC.back ?_)
    refine RC.cond_dec rfl (fun h7 => ?_) (fun h7 => ?_)
    ·
      have q1 : ¬ dig a i = dig b i := (by have := h7; omega)
      refine RC.seq ?_
      refine RC.region rfl ?_
      refine RL.ev (.move rfl) rfl rfl ?_
      refine RL.ev (.as (v' := .int .i64 (dig a i : Nat)) (.rem rfl rfl (by decide)) (by rw [rem4]; rfl)) rfl rfl ?_
      refine RL.ev (.move rfl) rfl rfl ?_
      refine RL.ev (.as (v' := .int .i64 (dig b i : Nat)) (.rem rfl rfl (by decide)) (by rw [rem4]; rfl)) rfl rfl ?_
      refine RL.ev (.bin rfl rfl rfl) rfl rfl ?_
      refine RL.ev (.assign rfl) rfl rfl ?_
      refine RL.nil (RC.back ?_)
      refine RC.done (rs := [.tmp 4]) (vs := [_]) rfl rfl ⟨rfl, trivial⟩ ?_
      -- end 1
      exact ⟨congrArg Value.bool (by rw [he, hs, lessF, h9, if_neg q1]; exact decide_eq_decide.2 (by omega)), S⟩
    ·
      have q1 : dig a i = dig b i := (by have := h7; omega)
      refine RC.skip (RC.back ?_)
      refine RC.region rfl ?_
      refine RL.ev (.move rfl) rfl rfl ?_
      refine RL.ev (.as (v' := .int .i64 ((hashOf a / 4 ^ (i + 1) : Nat) : Int)) (.quo rfl rfl (by decide)) (by exact wi64 (div4 a i) ⟨Int.le_trans (by decide) (Int.natCast_nonneg _), Int.le_trans (Int.ofNat_le.2 hqa) (by omega)⟩)) rfl rfl ?_
      refine RL.ev (.move rfl) rfl rfl ?_
      refine RL.ev (.as (v' := .int .i64 ((hashOf b / 4 ^ (i + 1) : Nat) : Int)) (.quo rfl rfl (by decide)) (by exact wi64 (div4 b i) ⟨Int.le_trans (by decide) (Int.natCast_nonneg _), Int.le_trans (Int.ofNat_le.2 hqb) (by omega)⟩)) rfl rfl ?_
      refine RL.ev (.assign rfl) rfl rfl ?_
      refine RL.ev (.assign rfl) rfl rfl ?_
      refine RL.nil (RC.back ?_)
      refine RC.region rfl ?_
      refine RL.ev (.as (.bin rfl rfl rfl) (wi64 (y := ((i + 1 : Nat) : Int)) (by omega) (by omega))) rfl rfl ?_
      refine RL.ev (.move rfl) rfl rfl ?_
      exact RL.nil (fun a ka => ⟨i + 1, ⟨⟨by omega, by rw [he, hs, lessF, h9, if_pos q1]; congr 1; omega⟩, S⟩, by omega, ka.keep (keep_of (by repeat (first | exact trivial | refine And.intro rfl ?_)))⟩)
  ·
    obtain rfl : i = 10 := (by omega)
    refine RC.exit rfl (RC.back ?_)
    refine RC.seq ?_
    refine RC.region rfl ?_
    refine RL.ev (.move rfl) rfl rfl ?_
    refine RL.ev (.move rfl) rfl rfl ?_
    refine RL.ev (.bin rfl rfl rfl) rfl rfl ?_
    refine RL.ev (.assign rfl) rfl rfl ?_
    refine RL.nil (RC.back ?_)
    refine RC.done (rs := [.tmp 4]) (vs := [_]) rfl rfl ⟨rfl, trivial⟩ ?_
    -- end 2
    exact ⟨congrArg Value.bool (by rw [he]; rfl), S⟩
theorem c_rLess (a b : Int) (w : World) : FC Try.prog 25 [.int .i64 a, .int .i64 b] w (Val (.bool (lessK a b)) w) := by
  refine FC.intro Try.func25 rfl Try.ntmps25 rfl ?_
  have S := Sub.refl w
  refine RC.seq ?_
  refine RC.region rfl ?_
  refine RL.ev (.assign rfl) rfl rfl ?_
  refine RL.nil (RC.back ?_)
  refine RC.seq ?_
  refine RC.seq ?_
  refine RC.region rfl ?_
  refine RL.ev (.assign rfl) rfl rfl ?_
  refine RL.nil (RC.back ?_)
  refine RC.block ?_
  refine RC.loop (α := Nat) (fun i => [(0, .int .i64 a), (1, .int .i64 b), (5, .int .i64 (i : Int))]) (fun i w1 => (i ≤ 10 ∧ lessK a b = lessF a b (10 - i)) ∧ Sub w w1) (fun i => 10 - i) 0 (keep_of (by repeat (first | exact trivial | refine And.intro rfl ?_))) (⟨⟨Nat.zero_le _, rfl⟩, S⟩) (fun i w1 hJ => ?_)
  obtain ⟨⟨hi, he⟩, S⟩ := hJ
  refine RC.seq ?_
  refine RC.seq ?_
  refine RC.region rfl ?_
  refine RL.ev (.move rfl) rfl rfl ?_
  refine RL.ev (.bin rfl rfl rfl) rfl rfl ?_
  refine RL.nil (RC.back ?_)
  refine RC.cond_dec rfl (fun h2 => ?_) (fun h2 => ?_)
  ·
    have hs : 10 - i = (9 - i) + 1 := (by omega)
    have h9 : 9 - (9 - i) = i := (by omega)
    refine RC.skip (RC.back ?_)
    refine RC.seq ?_
    refine RC.block ?_
    refine RC.seq ?_
    refine RC.region rfl ?_
    refine RL.ev (.move rfl) rfl rfl ?_
    refine RL.ev (.move rfl) rfl rfl ?_
    refine RL.call rfl ok51 (c_refDigit a i hi w1) rfl rfl ?_
    rintro _ w3 ⟨rfl, s4⟩
    have S := S.trans s4
    refine RL.ev (.assign rfl) rfl rfl ?_
    refine RL.nil (RC.back ?_)
    refine RC.seq ?_
    refine RC.region rfl ?_
    refine RL.ev (.move rfl) rfl rfl ?_
    refine RL.ev (.move rfl) rfl rfl ?_
    refine RL.call rfl ok51 (c_refDigit b i hi w3) rfl rfl ?_
    rintro _ w5 ⟨rfl, s6⟩
    have S := S.trans s6
    refine RL.ev (.assign rfl) rfl rfl ?_
    refine RL.nil (RC.back ?_)
    refine RC.seq ?_
    refine RC.region rfl ?_
    refine RL.ev (.move rfl) rfl rfl ?_
    refine RL.ev (.move rfl) rfl rfl ?_
    refine RL.ev (.bin rfl rfl rfl) rfl rfl ?_
    refine RL.nil (RC.back ?_)
    refine RC.cond_dec rfl (fun h7 => ?_) (fun h7 => ?_)
    ·
      have q1 : ¬ dig a i = dig b i := (by have := h7; omega)
      refine RC.seq ?_
      refine RC.region rfl ?_
      refine RL.ev (.move rfl) rfl rfl ?_
      refine RL.ev (.move rfl) rfl rfl ?_
      refine RL.ev (.bin rfl rfl rfl) rfl rfl ?_
      refine RL.ev (.assign rfl) rfl rfl ?_
      refine RL.nil (RC.back ?_)
      refine RC.done (rs := [.tmp 4]) (vs := [_]) rfl rfl ⟨rfl, trivial⟩ ?_
      -- end 1
      exact ⟨congrArg Value.bool (by rw [he, hs, lessF, h9, if_neg q1]; exact decide_eq_decide.2 (by omega)), S⟩
    ·
      have q1 : dig a i = dig b i := (by have := h7; omega)
      refine RC.skip (RC.back ?_)
      refine RC.region rfl ?_
      refine RL.ev (.move rfl) rfl rfl ?_
      refine RL.ev (.as (.bin rfl rfl rfl) (wi64 (y := ((i + 1 : Nat) : Int)) (by omega) (by omega))) rfl rfl ?_
      refine RL.ev (.assign rfl) rfl rfl ?_
      exact RL.nil (fun a ka => ⟨i + 1, ⟨⟨by omega, by rw [he, hs, lessF, h9, if_pos q1]; congr 1; omega⟩, S⟩, by omega, ka.keep (keep_of (by repeat (first | exact trivial | refine And.intro rfl ?_)))⟩)
  ·
    obtain rfl : i = 10 := (by omega)
    refine RC.exit rfl (RC.back ?_)
    refine RC.seq ?_
    refine RC.region rfl ?_
    refine RL.ev (.move rfl) rfl rfl ?_
    refine RL.ev (.move rfl) rfl rfl ?_
    refine RL.ev (.bin rfl rfl rfl) rfl rfl ?_
    refine RL.ev (.assign rfl) rfl rfl ?_
    refine RL.nil (RC.back ?_)
    refine RC.done (rs := [.tmp 4]) (vs := [_]) rfl rfl ⟨rfl, trivial⟩ ?_
    -- end 2
    exact ⟨congrArg Value.bool (by rw [he]; rfl), S⟩
theorem wl_get {l : List It} (hw : Wl l) {i j : Nat} {x y : It} (hi : l[i]? = some x) (hj : l[j]? = some y) (h : i < j) : lessK x.k y.k = true := by
  have h1 := lt_of_get hi
  have h2 := lt_of_get hj
  have := List.pairwise_iff_getElem.1 hw i j h1 h2 h
  rw [List.getElem?_eq_getElem h1] at hi
  rw [List.getElem?_eq_getElem h2] at hj
  rwa [Option.some.inj hi, Option.some.inj hj] at this
theorem len_put {l : List It} {k : Nat} {x : It} (h : l[k]? = some x) : ((l.take k ++ [x]).map It.cells ++ ([] : List It).map It.cells).length = (l.take (k + 1)).length := by
  rw [List.map_nil, List.append_nil, List.length_map, List.take_add_one, h]; rfl
/-- a row that stands in that order is put so -/
theorem c_rSorted (l : List It) (hw : Wl l) (a : Option Addr) (c m : Nat) (hm : m = l.length) (hb : l.length ≤ 1000000) (w : World) (hl : Sl w a 2 (l.map It.cells)) :
    FC Try.prog 27 [.slice a m c] w (fun u w' => Sub w w' ∧ ∃ a' c', u = .slice a' l.length c' ∧ Sl w' a' 2 (l.map It.cells)) := by
  subst hm
  refine FC.intro Try.func27 rfl Try.ntmps27 rfl ?_
  have S := Sub.refl w
  refine RC.seq ?_
  refine RC.region rfl ?_
  refine RL.ev (.assign rfl) rfl rfl ?_
  refine RL.nil (RC.back ?_)
  refine RC.seq ?_
  refine RC.region rfl ?_
  refine RL.buildSlice0 sl26 rfl rfl (fun b_8 w_8 e_8 z_8 hb_8 s_8 => ?_)
  have ge_8 := S.le e_8
  have S := S.trans s_8
  refine RL.ev (.assign rfl) rfl rfl ?_
  refine RL.nil (RC.back ?_)
  refine RC.seq ?_
  refine RC.seq ?_
  refine RC.region rfl ?_
  refine RL.ev (.move rfl) rfl rfl ?_
  refine RL.ev (.len sl26 rfl) rfl rfl ?_
  refine RL.ev (.move rfl) rfl rfl ?_
  refine RL.nil (RC.back ?_)
  refine RC.block ?_
  refine RC.loop (α := Nat × Option Addr × Nat × Nat) (fun x => [(3, .slice x.2.1 x.2.2.1 x.2.2.2), (9, .slice a l.length c), (10, .int .i64 (l.length : Int)), (11, .int .i64 (x.1 : Int))]) (fun x w1 => (x.1 ≤ l.length ∧ x.2.2.1 = (l.take x.1).length ∧ (l.take x.1).length ≤ x.2.2.2) ∧ Sl w1 x.2.1 2 ((l.take x.1).map It.cells) ∧ Sub w w1) (fun x => l.length - x.1) (0, some ⟨b_8, 0, none⟩, 0, 0) (keep_of (by repeat (first | exact trivial | refine And.intro rfl ?_))) (⟨⟨Nat.zero_le _, by simp, by simp⟩, by rw [List.take_zero]; exact (Ows.lit0 (base := 0) (sz := 2) hb_8 (Nat.zero_le _)).sl.1, S⟩) (fun x w1 hJ => ?_)
  obtain ⟨i, ra, rm, rc⟩ := x; obtain ⟨⟨hi, hrm, hrc⟩, hr, S⟩ := hJ; simp only [] at hi hrm hrc hr; have htl : (l.take i).length = i := (by rw [List.length_take]; omega); rw [htl] at hrm hrc; subst hrm
  refine RC.seq ?_
  refine RC.region rfl ?_
  refine RL.ev (.bin rfl rfl rfl) rfl rfl ?_
  refine RL.nil (RC.back ?_)
  refine RC.seq ?_
  refine RC.cond_dec rfl (fun h2 => ?_) (fun h2 => ?_)
  ·
    obtain ⟨x, hx⟩ := getSome (l := l) (i := rm) (by omega)
    obtain ⟨Wi, Si, hr, szWi⟩ : ∃ W, Sub W w1 ∧ Sl W ra 2 ((l.take rm).map It.cells) ∧ w.heap.size ≤ W.heap.size := ⟨_, Sub.refl _, hr, S.size⟩
    refine RC.skip (RC.back ?_)
    refine RC.seq ?_
    refine RC.block ?_
    refine RC.seq ?_
    refine RC.region rfl ?_
    refine RL.ev (.indexS sl26 rfl rfl (by omega) (hl.is (i := 0) (by simp only [List.length_map, List.length_cons, List.length_nil]; omega))) rfl rfl ?_
    refine RL.ev (.loadR (x.cells) sh29 rfl ((hl.sub S).rowAt (enc := It.cells) (i := rm) hx) rfl) rfl rfl ?_
    refine RL.alloc ze29 rfl rfl (fun b_5 w_5 e_5 z_5 hb_5 s_5 => ?_)
    have ge_5 := S.le e_5
    have S := S.trans s_5
    have geSi_5 := Si.le e_5
    have Si := Si.trans s_5
    refine RL.store sh29 rfl rfl rfl hb_5 (by exact Nat.le_of_ble_eq_true rfl) (by rfl) rfl (fun w3 z3 hb_5 a3 => ?_)
    have S := S.upd a3 ge_5
    have Si := Si.upd a3 geSi_5
    have hb_5 : Has w3 b_5 (x.cells) _ := hb_5.now (by kernel_rfl)
    refine RL.nil (RC.back ?_)
    refine RC.seq ?_
    refine RC.region rfl ?_
    refine RL.ev (.assign rfl) rfl rfl ?_
    refine RL.nil (RC.back ?_)
    refine RC.seq ?_
    refine RC.block ?_
    refine RC.loop (α := Nat) (fun k => [(3, .slice ra rm rc), (5, .pointer (some ⟨b_5, 0, none⟩)), (6, .int .i64 (k : Int)), (9, .slice a l.length c), (10, .int .i64 (l.length : Int)), (11, .int .i64 (rm : Int))]) (fun k w4 => k ≤ rm ∧ Has w4 b_5 x.cells 29 ∧ Sub Wi w4 ∧ Sub w w4) (fun k => rm - k) 0 (keep_of (by repeat (first | exact trivial | refine And.intro rfl ?_))) (⟨Nat.zero_le _, hb_5, Si, S⟩) (fun k w4 hJ => ?_)
    obtain ⟨hk, hb_5, Si, S⟩ := hJ; have hr2 := hr.sub Si; have szB := Si.size
    refine RC.seq ?_
    refine RC.seq ?_
    refine RC.draw rfl mxo (by kernel_rfl) ?_
    refine RQ.ev (.move rfl) rfl rfl ?_
    refine RQ.ev (.move rfl) rfl rfl ?_
    refine RQ.ev (.len sl26 rfl) rfl rfl ?_
    refine RQ.ev (.bin rfl rfl rfl) rfl rfl ?_
    refine RQ.ev (.move rfl) rfl rfl ?_
    refine RQ.split 19 rfl (fun h5 => ?_) (fun h5 => ?_)
    ·
      obtain ⟨z, hz⟩ := getSome (l := l) (i := k) (by omega)
      have hz2 : (l.take rm)[k]? = some z := (by rw [List.getElem?_take_of_lt (by omega)]; exact hz)
      have hlt := wl_get hw hz hx (by omega)
      refine RQ.ev (.move rfl) rfl rfl ?_
      refine RQ.ev (.move rfl) rfl rfl ?_
      refine RQ.ev (.indexS sl26 rfl rfl (by omega) (hr2.is (i := k) (by simp only [List.length_map]; omega))) rfl rfl ?_
      refine RQ.ev (.fieldA fo29_0 rfl) rfl rfl ?_
      refine RQ.ev (.load1 sh2 rfl (hr2.cell (enc := It.cells) (j := 0) hz2 rfl)) rfl rfl ?_
      refine RQ.ev (.field0 fo29_0 rfl) rfl rfl ?_
      refine RQ.ev (.load1 sh2 rfl (hb_5.cell rfl)) rfl rfl ?_
      refine RQ.call rfl ok25 (fun w' s' => c_rLess z.k x.k w') rfl rfl ?_
      refine RQ.ev (.as (v' := .bool true) (.pick_t rfl rfl) (congrArg Value.bool (hlt))) rfl rfl ?_
      refine RQ.nil (fun w6 s7 => RC.back ?_)
      have S := S.trans s7
      have Si := Si.trans s7
      have hb_5 := hb_5.sub s7
      have szB := Nat.le_trans szB s7.size
      refine RC.cond_t rfl ?_
      refine RC.skip (RC.back ?_)
      refine RC.block ?_
      refine RC.region rfl ?_
      refine RL.ev (.move rfl) rfl rfl ?_
      refine RL.ev (.as (.bin rfl rfl rfl) (wi64 (y := ((k + 1 : Nat) : Int)) (by omega) (by omega))) rfl rfl ?_
      refine RL.ev (.assign rfl) rfl rfl ?_
      exact RL.nil (fun a ka => ⟨k + 1, ⟨by omega, hb_5, Si, S⟩, by omega, ka.keep (keep_of (by repeat (first | exact trivial | refine And.intro rfl ?_)))⟩)
    ·
      obtain rfl : k = rm := (by omega)
      refine RQ.off rfl rfl ?_
      refine RQ.off rfl rfl ?_
      refine RQ.off rfl rfl ?_
      refine RQ.off rfl rfl ?_
      refine RQ.off rfl rfl ?_
      refine RQ.off rfl rfl ?_
      refine RQ.off rfl rfl ?_
      refine RQ.off rfl rfl ?_
      refine RQ.ev (.pick_f rfl rfl) rfl rfl ?_
      refine RQ.nil (fun w8 s9 => RC.back ?_)
      have S := S.trans s9
      have Si := Si.trans s9
      have hb_5 := hb_5.sub s9
      have szB := Nat.le_trans szB s9.size
      refine RC.cond_f rfl ?_
      refine RC.exit rfl (RC.back ?_)
      refine RC.seq ?_
      refine RC.region rfl ?_
      refine RL.buildSlice0 sl26 rfl rfl (fun b_31 w_31 e_31 z_31 hb_31 s_31 => ?_)
      have ge_31 := S.le e_31
      have n_5__31 := hb_5.ne e_31
      have S := S.trans s_31
      have geSi_31 := Si.le e_31
      have Si := Si.trans s_31
      have hb_5 := hb_5.sub s_31
      have szB := Nat.le_trans szB s_31.size
      refine RL.ev (.assign rfl) rfl rfl ?_
      refine RL.nil (RC.back ?_)
      refine RC.seq ?_
      refine RC.region rfl ?_
      refine RL.ev (.move rfl) rfl rfl ?_
      refine RL.ev (.move rfl) rfl rfl ?_
      refine RL.ev (.move rfl) rfl rfl ?_
      refine RL.ev (.as (v' := .slice ra (l.take k).length rc) (.sliceHi sl26 rfl rfl (by omega)) (by rw [htl]; rfl)) rfl rfl ?_
      have sz_36 := S.size
      have szSi_36 := Si.size
      have ltb_5_36 := hb_5.lt
      have ltb_31_36 := hb_31.lt
      refine RL.append2 (base := Wi.heap.size) (rows := []) (news := (l.take k).map It.cells) sl26 ze29 rfl rfl rfl rfl (.inl (Ows.lit0 hb_31 (by omega))) (hr.sub Si) (by (try simp only [List.length_map]); first | done | rfl) (by intro r hr; obtain ⟨x, _, rfl⟩ := List.mem_map.1 hr; rfl) (by rw [List.all_eq_true]; intro r hr; obtain ⟨x, _, rfl⟩ := List.mem_map.1 hr; rfl) (by (try simp only [List.length_map, List.length_nil, List.length_append, List.length_cons]); omega) (by (try simp only [List.length_map, List.length_nil, List.length_append, List.length_cons]); omega) (by omega) rfl rfl (fun v_36 w_36 hc_36 ho_36 ag_36 ob_36 => ?_)
      have o36 := ho_36 (.inr (Ows.lit0 hb_31 (by omega)))
      have d_o36_b_5 := obNe ob_36 (fun k hk e => n_5__31.symm ((obLit hk).trans e)) hb_5.lt
      have S := S.agrN ag_36 (fun k e => Nat.le_trans (by omega) e.2)
      have Si := Si.agrN ag_36 (fun k e => Nat.le_trans (by omega) e.2)
      have hb_5 := hb_5.step ag_36 (fun e => n_5__31.symm (obLit e.1))
      have szB := Nat.le_trans szB ag_36.size
      obtain ⟨a_36, c_36, rfl, k_36⟩ := o36.form
      rw [List.nil_append] at o36
      refine RL.ev (.assign rfl) rfl rfl ?_
      refine RL.nil (RC.back ?_)
      refine RC.seq ?_
      refine RC.region rfl ?_
      refine RL.ev (.move rfl) rfl rfl ?_
      refine RL.ev (.loadR (x.cells) sh29 rfl hb_5.row rfl) rfl rfl ?_
      refine RL.buildSlice1 sl26 _ ze29 rfl rfl rfl rfl rfl rfl rfl (fun b_39 w_39 e_39 z_39 hb_39 s_39 => ?_)
      have ge_39 := S.le e_39
      have n_5__39 := hb_5.ne e_39
      have d_o36_b_39 := o36.neNew e_39
      have S := S.trans s_39
      have geSi_39 := Si.le e_39
      have Si := Si.trans s_39
      have hb_5 := hb_5.sub s_39
      have szB := Nat.le_trans szB s_39.size
      have o36 := o36.sub s_39
      have sz_40 := S.size
      have szSi_40 := Si.size
      have ltb_5_40 := hb_5.lt
      have ltb_39_40 := hb_39.lt
      refine RL.append2 (base := Wi.heap.size) (rows := (l.take k).map It.cells) (news := [_]) sl26 ze29 rfl rfl rfl rfl (.inl o36) (Has.slOne hb_39) rfl (by intro r hr; rw [List.mem_singleton] at hr; subst hr; rfl) rfl (by (try simp only [List.length_map, List.length_nil, List.length_append, List.length_cons]); omega) (by (try simp only [List.length_map, List.length_nil, List.length_append, List.length_cons]); omega) (by omega) rfl rfl (fun v_40 w_40 hc_40 ho_40 ag_40 ob_40 => ?_)
      have o40 := ho_40 (.inl (by simp))
      rw [show _ ++ [_] = ((l.take k ++ [x]).map It.cells) from by rw [List.map_append]; rfl] at o40
      have d_o40_b_5 := obNe ob_40 d_o36_b_5 hb_5.lt
      have S := S.agrN ag_40 (fun k e => Nat.le_trans (by omega) e.2)
      have Si := Si.agrN ag_40 (fun k e => Nat.le_trans (by omega) e.2)
      have hb_5 := hb_5.step ag_40 (fun e => d_o36_b_5 _ e.1 rfl)
      have szB := Nat.le_trans szB ag_40.size
      obtain ⟨a_40, c_40, rfl, k_40⟩ := o40.form
      refine RL.ev (.assign rfl) rfl rfl ?_
      refine RL.nil (RC.back ?_)
      refine RC.seq ?_
      refine RC.region rfl ?_
      refine RL.ev (.move rfl) rfl rfl ?_
      refine RL.ev (.move rfl) rfl rfl ?_
      refine RL.ev (.move rfl) rfl rfl ?_
      refine RL.ev (.as (v' := .slice (if rc = k then ra else ra.map (·.add (k * 2))) 0 (rc - k)) (.sliceLo sl26 rfl rfl (by omega)) (by congr 1; exact Nat.sub_self k)) rfl rfl ?_
      have sz_45 := S.size
      have szSi_45 := Si.size
      have ltb_5_45 := hb_5.lt
      refine RL.append2 (base := Wi.heap.size) (rows := (l.take k ++ [x]).map It.cells) (news := ([] : List It).map It.cells) sl26 ze29 rfl rfl rfl rfl (.inl o40) (Sl.nil _ _ _) (by (try simp only [List.length_map]); first | done | rfl) (by intro r hr; obtain ⟨x, _, rfl⟩ := List.mem_map.1 hr; rfl) (by rw [List.all_eq_true]; intro r hr; obtain ⟨x, _, rfl⟩ := List.mem_map.1 hr; rfl) (by (try simp only [List.length_map, List.length_nil, List.length_append, List.length_cons]); omega) (by (try simp only [List.length_map, List.length_nil, List.length_append, List.length_cons]); omega) (by omega) rfl rfl (fun v_45 w_45 hc_45 ho_45 ag_45 ob_45 => ?_)
      have o45 := ho_45 (.inr o40)
      have d_o45_b_5 := obNe ob_45 d_o40_b_5 hb_5.lt
      have S := S.agrN ag_45 (fun k e => Nat.le_trans (by omega) e.2)
      have Si := Si.agrN ag_45 (fun k e => Nat.le_trans (by omega) e.2)
      have hb_5 := hb_5.step ag_45 (fun e => d_o40_b_5 _ e.1 rfl)
      have szB := Nat.le_trans szB ag_45.size
      obtain ⟨a_45, c_45, rfl, k_45⟩ := o45.form
      rw [List.map_nil, List.append_nil, show l.take k ++ [x] = l.take (k + 1) from by rw [List.take_add_one, hx]; rfl] at o45
      refine RL.ev (.assign rfl) rfl rfl ?_
      refine RL.nil (RC.back ?_)
      refine RC.region rfl ?_
      refine RL.ev (.as (v' := .slice a_45 (l.take (k + 1)).length c_45) (.move rfl) (by exact congrArg (fun n => Value.slice a_45 n c_45) (len_put hx))) rfl rfl ?_
      refine RL.ev (.assign rfl) rfl rfl ?_
      refine RL.nil (RC.back ?_)
      refine RC.region rfl ?_
      refine RL.ev (.as (.bin rfl rfl rfl) (wi64 (y := ((k + 1 : Nat) : Int)) (by omega) (by omega))) rfl rfl ?_
      refine RL.ev (.move rfl) rfl rfl ?_
      exact RL.nil (fun a ka => ⟨(k + 1, a_45, _, c_45), ⟨⟨by simp only []; omega, rfl, (by obtain ⟨_, c', e, h⟩ := o45.form; cases e; rw [List.length_map] at h; exact h)⟩, o45.sl.1, S⟩, by simp only []; omega, ka.keep (keep_of (by repeat (first | exact trivial | refine And.intro rfl ?_)))⟩)
  ·
    obtain rfl : rm = l.length := (by omega)
    rw [List.take_length] at hr
    refine RC.exit rfl (RC.back ?_)
    refine RC.seq ?_
    refine RC.region rfl ?_
    refine RL.ev (.move rfl) rfl rfl ?_
    refine RL.ev (.assign rfl) rfl rfl ?_
    refine RL.nil (RC.back ?_)
    refine RC.done (rs := [.tmp 2]) (vs := [_]) rfl rfl ⟨rfl, trivial⟩ ?_
    -- end 1
    exact ⟨S, ra, rc, rfl, hr⟩
end Go.Proofs.Ytbfjobmebkhblaa
set_option linter.unusedVariables false
set_option linter.unusedSimpArgs false
namespace Go.Proofs.Ytbfjobmebkhblaa
open Go Go.XL
def findK (A : Ar) (r key : Int) : Option It := (rowH A r).find? fun x => lessK key x.k
/-- what First and Next tell -/
def FndP (A : Ar) (r : Int) (o : Option It) (x : It) (e : Int) : Prop := (¬ isTab A r → x = ⟨0, 0⟩ ∧ e = 1) ∧ (isTab A r → (∃ y, o = some y ∧ x = y ∧ e = 0) ∨ (o = none ∧ x = ⟨0, 0⟩ ∧ e = 3))
theorem c_wNext1 (key : Int) (b5 : Nat) (x : It) (w : World) (h : Has w b5 [.int .i64 key] 2) : FC Try.prog 47 ([x.val] ++ [.pointer (some ⟨b5, 0, none⟩)]) w (Val (.bool (lessK key x.k)) w) := by
  refine FC.intro Try.func47 rfl Try.ntmps47 rfl ?_
  have S := Sub.refl w
  refine RC.seq ?_
  refine RC.region rfl ?_
  refine RL.box rfl rfl rfl (fun b_2 w_2 e_2 z_2 hb_2 s_2 => ?_)
  have ge_2 := S.le e_2
  have n5__2 := h.ne e_2
  have S := S.trans s_2
  have h := h.sub s_2
  have hb_2 : Has w_2 b_2 (x.cells) _ := hb_2
  refine RL.ev (.assign rfl) rfl rfl ?_
  refine RL.nil (RC.back ?_)
  refine RC.seq ?_
  refine RC.region rfl ?_
  refine RL.ev (.load1 sh2 rfl (h.cell rfl)) rfl rfl ?_
  refine RL.ev (.field0 fo29_0 rfl) rfl rfl ?_
  refine RL.ev (.load1 sh2 rfl (hb_2.cell rfl)) rfl rfl ?_
  refine RL.call rfl ok14 (c_wLess key x.k w_2) rfl rfl ?_
  rintro _ w1 ⟨rfl, s2⟩
  have S := S.trans s2
  have h := h.sub s2
  have hb_2 := hb_2.sub s2
  refine RL.ev (.assign rfl) rfl rfl ?_
  refine RL.nil (RC.back ?_)
  refine RC.done (rs := [.tmp 3]) (vs := [_]) rfl rfl ⟨rfl, trivial⟩ ?_
  -- end 1
  exact ⟨rfl, S⟩
theorem c_wNext (A : Ar) (na fa : Option Addr) (nc fc : Nat) (hnc : A.nodes.length ≤ nc) (hfc : A.free.length ≤ fc) (r : Int) (hr : U64 r) (key : Int) (w : World) (hA : ArR w na fa A) :
    FC Try.prog 19 [arV na fa nc fc A, .int .u64 r, .int .i64 key] w (fun v w' => Sub w w' ∧ ∃ x e, v = .tuple #[x.val, .int .i64 e] ∧ FndP A r (findK A r key) x e) := by
  have hNd := hA.nodes
  have hFr := hA.free
  have hG : Ft (· < w.heap.size) (fun u => ArR u na fa A) w := Ft.of_sub fun u s => hA.sub s
  refine FC.intro Try.func19 rfl Try.ntmps19 rfl ?_
  have S := Sub.refl w
  refine RC.seq ?_
  refine RC.region rfl ?_
  refine RL.box rfl rfl rfl (fun b_3 w_3 e_3 z_3 hb_3 s_3 => ?_)
  have ge_3 := S.le e_3
  have S := S.trans s_3
  have hb_3 : Has w_3 b_3 ([.slice na A.nodes.length nc, .slice fa A.free.length fc]) _ := hb_3
  refine RL.box rfl rfl rfl (fun b_5 w_5 e_5 z_5 hb_5 s_5 => ?_)
  have ge_5 := S.le e_5
  have n_3__5 := hb_3.ne e_5
  have S := S.trans s_5
  have hb_3 := hb_3.sub s_5
  refine RL.alloc ze29 rfl rfl (fun b_6 w_6 e_6 z_6 hb_6 s_6 => ?_)
  have ge_6 := S.le e_6
  have n_3__6 := hb_3.ne e_6
  have n_5__6 := hb_5.ne e_6
  have S := S.trans s_6
  have hb_3 := hb_3.sub s_6
  have hb_5 := hb_5.sub s_6
  refine RL.ev (.assign rfl) rfl rfl ?_
  refine RL.nil (RC.back ?_)
  refine RC.seq ?_
  refine RC.region rfl ?_
  refine RL.ev (.loadR ([.slice na A.nodes.length nc, .slice fa A.free.length fc]) sh34 rfl hb_3.row rfl) rfl rfl ?_
  refine RL.ev (.move rfl) rfl rfl ?_
  refine RL.ev (.func (xs := []) (ys := [_]) rfl rfl) rfl rfl ?_
  refine RL.call rfl ok46 (c_wfirst A na fa nc fc hnc hfc r hr 47 ok47 [.pointer (some ⟨b_5, 0, none⟩)] (fun x => lessK key x.k) (· < w.heap.size) (· = b_5) (fun u => Has u b_5 [.int .i64 key] 2) w_6 (hG.sub S) hb_5.ft (fun k hk e => by omega) (fun u u' h h' k hk => by rw [hk]; unfold Has at h h'; rw [h, h']) (fun x u _ h => c_wNext1 key b_5 x u h)) rfl rfl ?_
  rintro _ w1 ⟨s2, x, e, rfl, hf1, hf2⟩
  have S := S.trans s2
  have hb_3 := hb_3.sub s2
  have hb_5 := hb_5.sub s2
  have hb_6 := hb_6.sub s2
  refine RL.ev (.extract rfl rfl) rfl rfl ?_
  refine RL.ev (.extract rfl rfl) rfl rfl ?_
  refine RL.store sh29 rfl rfl rfl hb_6 (by exact Nat.le_of_ble_eq_true rfl) (by rfl) rfl (fun w3 z3 hb_6 a3 => ?_)
  have S := S.upd a3 ge_6
  have hb_3 := hb_3.upd a3 n_3__6
  have hb_5 := hb_5.upd a3 n_5__6
  have hb_6 : Has w3 b_6 (x.cells) _ := hb_6.now (by kernel_rfl)
  refine RL.ev (.assign rfl) rfl rfl ?_
  refine RL.nil (RC.back ?_)
  refine RC.done (rs := [.cell 6 29, .tmp 7]) (vs := [_, _]) rfl rfl ⟨⟨_, rfl, .inr ⟨x.cells, sh29, hb_6.row, rfl⟩⟩, rfl, trivial⟩ ?_
  -- end 1
  exact ⟨S, x, e, rfl, hf1, hf2⟩
theorem c_wFirst1 (x : It) (w : World) : FC Try.prog 50 ([x.val] ++ []) w (Val (.bool true) w) := by
  refine FC.intro Try.func50 rfl Try.ntmps50 rfl ?_
  have S := Sub.refl w
  refine RC.seq ?_
  refine RC.region rfl ?_
  refine RL.box rfl rfl rfl (fun b_1 w_1 e_1 z_1 hb_1 s_1 => ?_)
  have ge_1 := S.le e_1
  have S := S.trans s_1
  have hb_1 : Has w_1 b_1 (x.cells) _ := hb_1
  refine RL.ev (.assign rfl) rfl rfl ?_
  refine RL.nil (RC.back ?_)
  refine RC.seq ?_
  refine RC.region rfl ?_
  refine RL.ev (.assign rfl) rfl rfl ?_
  refine RL.nil (RC.back ?_)
  refine RC.done (rs := [.tmp 2]) (vs := [_]) rfl rfl ⟨rfl, trivial⟩ ?_
  -- end 1
  exact ⟨rfl, S⟩
theorem c_wFirst (A : Ar) (na fa : Option Addr) (nc fc : Nat) (hnc : A.nodes.length ≤ nc) (hfc : A.free.length ≤ fc) (r : Int) (hr : U64 r) (w : World) (hA : ArR w na fa A) :
    FC Try.prog 24 [arV na fa nc fc A, .int .u64 r] w (fun v w' => Sub w w' ∧ ∃ x e, v = .tuple #[x.val, .int .i64 e] ∧ FndP A r (rowH A r).head? x e) := by
  have hNd := hA.nodes
  have hFr := hA.free
  have hG : Ft (· < w.heap.size) (fun u => ArR u na fa A) w := Ft.of_sub fun u s => hA.sub s
  have hh : (rowH A r).find? (fun _ => true) = (rowH A r).head? := by cases rowH A r <;> rfl
  refine FC.intro Try.func24 rfl Try.ntmps24 rfl ?_
  have S := Sub.refl w
  refine RC.seq ?_
  refine RC.region rfl ?_
  refine RL.box rfl rfl rfl (fun b_2 w_2 e_2 z_2 hb_2 s_2 => ?_)
  have ge_2 := S.le e_2
  have S := S.trans s_2
  have hb_2 : Has w_2 b_2 ([.slice na A.nodes.length nc, .slice fa A.free.length fc]) _ := hb_2
  refine RL.alloc ze29 rfl rfl (fun b_4 w_4 e_4 z_4 hb_4 s_4 => ?_)
  have ge_4 := S.le e_4
  have n_2__4 := hb_2.ne e_4
  have S := S.trans s_4
  have hb_2 := hb_2.sub s_4
  refine RL.ev (.assign rfl) rfl rfl ?_
  refine RL.nil (RC.back ?_)
  refine RC.seq ?_
  refine RC.region rfl ?_
  refine RL.ev (.loadR ([.slice na A.nodes.length nc, .slice fa A.free.length fc]) sh34 rfl hb_2.row rfl) rfl rfl ?_
  refine RL.ev (.move rfl) rfl rfl ?_
  refine RL.call rfl ok46 (c_wfirst A na fa nc fc hnc hfc r hr 50 ok50 [] (fun x => true) (· < w.heap.size) (fun _ => False) (fun u => True) w_4 (hG.sub S) ⟨fun _ h => h.elim, fun _ _ => trivial⟩ (fun k hk e => e) (fun u u' _ _ k hk => hk.elim) (fun x u _ _ => c_wFirst1 x u)) rfl rfl ?_
  rintro _ w1 ⟨s2, x, e, rfl, hf1, hf2⟩
  have S := S.trans s2
  have hb_2 := hb_2.sub s2
  have hb_4 := hb_4.sub s2
  refine RL.ev (.extract rfl rfl) rfl rfl ?_
  refine RL.ev (.extract rfl rfl) rfl rfl ?_
  refine RL.store sh29 rfl rfl rfl hb_4 (by exact Nat.le_of_ble_eq_true rfl) (by rfl) rfl (fun w3 z3 hb_4 a3 => ?_)
  have S := S.upd a3 ge_4
  have hb_2 := hb_2.upd a3 n_2__4
  have hb_4 : Has w3 b_4 (x.cells) _ := hb_4.now (by kernel_rfl)
  refine RL.ev (.assign rfl) rfl rfl ?_
  refine RL.nil (RC.back ?_)
  refine RC.done (rs := [.cell 4 29, .tmp 5]) (vs := [_, _]) rfl rfl ⟨⟨_, rfl, .inr ⟨x.cells, sh29, hb_4.row, rfl⟩⟩, rfl, trivial⟩ ?_
  -- end 1
  rw [hh] at hf2
  exact ⟨S, x, e, rfl, hf1, hf2⟩
theorem few10_R {w na fa A} (h : ArR w na fa A) : ArR w na fa (few130 A) := few130_R h
theorem c_few10 (A : Ar) (na fa : Option Addr) (nc fc : Nat) (hnc : A.nodes.length ≤ nc) (hfc : A.free.length ≤ fc) (w : World) :
    FC Try.prog 23 [arV na fa nc fc A] w (Val (arV na fa nc fc (few130 A)) w) := by
  refine FC.intro Try.func23 rfl Try.ntmps23 rfl ?_
  have S := Sub.refl w
  refine RC.seq ?_
  refine RC.region rfl ?_
  refine RL.box rfl rfl rfl (fun b_1 w_1 e_1 z_1 hb_1 s_1 => ?_)
  have ge_1 := S.le e_1
  have S := S.trans s_1
  have hb_1 : Has w_1 b_1 ([.slice na A.nodes.length nc, .slice fa A.free.length fc]) _ := hb_1
  refine RL.alloc ze34 rfl rfl (fun b_2 w_2 e_2 z_2 hb_2 s_2 => ?_)
  have ge_2 := S.le e_2
  have n_1__2 := hb_1.ne e_2
  have S := S.trans s_2
  have hb_1 := hb_1.sub s_2
  refine RL.nil (RC.back ?_)
  refine RC.seq ?_
  refine RC.drawD (fun k => k = b_1) [15, 17] w_2.heap.size 18 rfl rfl mxo (fun w1 s2 => ?_)
  have hNN : ∀ k, ((k = b_1) ∨ w_2.heap.size ≤ k) → w.heap.size ≤ k := fun k e => e.elim (fun e => e ▸ ge_1) (fun e => Nat.le_trans S.size e)
  have ent_S := S.size
  have hN0 : ∀ k, w_2.heap.size ≤ k → w.heap.size ≤ k := fun k e => Nat.le_trans S.size e
  have ltD_b_1 := hb_1.lt
  have ltD_b_2 := hb_2.lt
  have szD := Nat.le_refl w_2.heap.size
  have S := S.trans s2
  have hb_1 := hb_1.sub s2
  have hb_2 := hb_2.sub s2
  have szD := Nat.le_trans szD s2.size
  refine RD.take 0 rfl (by kernel_rfl) (by kernel_rfl) (by kernel_rfl) (fun w' s' => .field0 fo34_0 rfl) rfl rfl ?_
  refine RD.takeL 1 rfl (by kernel_rfl) (by kernel_rfl) (by kernel_rfl) (by kernel_rfl) (fun w' s' => .load1 sh31 rfl ((hb_1.step s' (fun e => Nat.not_le.2 ltD_b_1 e)).cell rfl)) rfl rfl ?_
  refine RD.take 2 rfl (by kernel_rfl) (by kernel_rfl) (by kernel_rfl) (fun w' s' => .field0 fo34_0 rfl) rfl rfl ?_
  refine RD.takeL 3 rfl (by kernel_rfl) (by kernel_rfl) (by kernel_rfl) (by kernel_rfl) (fun w' s' => .load1 sh31 rfl ((hb_1.step s' (fun e => Nat.not_le.2 ltD_b_1 e)).cell rfl)) rfl rfl ?_
  refine RD.take 4 rfl (by kernel_rfl) (by kernel_rfl) (by kernel_rfl) (fun w' s' => .len sl31 rfl) rfl rfl ?_
  refine RD.take 5 rfl (by kernel_rfl) (by kernel_rfl) (by kernel_rfl) (fun w' s' => .min2 rfl rfl) rfl rfl ?_
  refine RD.take 6 rfl (by kernel_rfl) (by kernel_rfl) (by kernel_rfl) (fun w' s' => .as (v' := .slice na (A.nodes.take 130).length nc) (.sliceHi sl31 rfl rfl (by split <;> omega)) (by rw [← few_len]; rfl)) rfl rfl ?_
  refine RD.take 7 rfl (by kernel_rfl) (by kernel_rfl) (by kernel_rfl) (fun w' s' => .field0 fo34_1 rfl) rfl rfl ?_
  refine RD.takeL 8 rfl (by kernel_rfl) (by kernel_rfl) (by kernel_rfl) (by kernel_rfl) (fun w' s' => .load1 sh32 rfl ((hb_1.step s' (fun e => Nat.not_le.2 ltD_b_1 e)).cell rfl)) rfl rfl ?_
  refine RD.take 9 rfl (by kernel_rfl) (by kernel_rfl) (by kernel_rfl) (fun w' s' => .field0 fo34_1 rfl) rfl rfl ?_
  refine RD.takeL 10 rfl (by kernel_rfl) (by kernel_rfl) (by kernel_rfl) (by kernel_rfl) (fun w' s' => .load1 sh32 rfl ((hb_1.step s' (fun e => Nat.not_le.2 ltD_b_1 e)).cell rfl)) rfl rfl ?_
  refine RD.take 11 rfl (by kernel_rfl) (by kernel_rfl) (by kernel_rfl) (fun w' s' => .len sl32 rfl) rfl rfl ?_
  refine RD.take 12 rfl (by kernel_rfl) (by kernel_rfl) (by kernel_rfl) (fun w' s' => .min2 rfl rfl) rfl rfl ?_
  refine RD.take 13 rfl (by kernel_rfl) (by kernel_rfl) (by kernel_rfl) (fun w' s' => .as (v' := .slice fa (A.free.take 132).length fc) (.sliceHi sl32 rfl rfl (by split <;> omega)) (by rw [← few_len]; rfl)) rfl rfl ?_
  refine RD.take 14 rfl (by kernel_rfl) (by kernel_rfl) (by kernel_rfl) (fun w' s' => .field0 fo34_0 rfl) rfl rfl ?_
  refine RD.all [15] (by kernel_rfl) rfl (RDs.cons rfl ?_ (RDs.nil))
  refine RL.store sh31 rfl rfl rfl hb_1 (by exact Nat.le_of_ble_eq_true rfl) (by rfl) rfl (fun w3 z3 hb_1 a3 => ?_)
  have S := S.upd a3 ge_1
  have hb_2 := hb_2.upd a3 n_1__2.symm
  have szD := Nat.le_trans szD a3.size
  refine RD.backW rfl (a3.mono fun k _ e => e ▸ (.inl (rfl))) ?_
  refine RD.take 16 rfl (by kernel_rfl) (by kernel_rfl) (by kernel_rfl) (fun w' s' => .field0 fo34_1 rfl) rfl rfl ?_
  refine RD.all [17] (by kernel_rfl) rfl (RDs.cons rfl ?_ (RDs.nil))
  refine RL.store sh32 rfl rfl rfl hb_1 (by exact Nat.le_of_ble_eq_true rfl) (by rfl) rfl (fun w4 z4 hb_1 a4 => ?_)
  have S := S.upd a4 ge_1
  have hb_2 := hb_2.upd a4 n_1__2.symm
  have szD := Nat.le_trans szD a4.size
  refine RD.backW rfl (a4.mono fun k _ e => e ▸ (.inl (rfl))) ?_
  refine RD.done (by kernel_rfl) (RC.back ?_)
  refine RC.seq ?_
  refine RC.region rfl ?_
  refine RL.ev (.loadR ([.slice na (A.nodes.take 130).length nc, .slice fa (A.free.take 132).length fc]) sh34 rfl hb_1.row rfl) rfl rfl ?_
  refine RL.store sh34 rfl rfl rfl hb_2 (by exact Nat.le_of_ble_eq_true rfl) (by rfl) rfl (fun w5 z5 hb_2 a5 => ?_)
  have S := S.upd a5 ge_2
  have hb_1 := hb_1.upd a5 n_1__2
  have hb_2 : Has w5 b_2 ([.slice na (A.nodes.take 130).length nc, .slice fa (A.free.take 132).length fc]) _ := hb_2.now (by kernel_rfl)
  refine RL.nil (RC.back ?_)
  refine RC.done (rs := [.cell 2 34]) (vs := [_]) rfl rfl ⟨⟨_, rfl, .inr ⟨[.slice na (A.nodes.take 130).length nc, .slice fa (A.free.take 132).length fc], sh34, hb_2.row, rfl⟩⟩, trivial⟩ ?_
  -- end 1
  exact ⟨rfl, S⟩
def one57 : List It := [⟨5, 7⟩]
theorem one57_ap : Ap one57 := List.pairwise_singleton _ _
theorem one57_fit : ∀ x ∈ one57, shL x.k one57 ≤ 9 := fun x _ => Nat.le_trans (shL_le _ _) (by decide)
theorem one57_ok : ∀ z ∈ one57, z.ok := fun z hz => by rw [List.mem_singleton.1 hz]; exact ⟨by unfold I64; decide, by unfold I64; decide⟩
theorem c_alive10 (w : World) : FC Try.prog 15 [] w (Val (.bool true) w) := by
  have hc : cnt 10 one57 = 1 := cnt_few (by decide)
  refine FC.intro Try.func15 rfl Try.ntmps15 rfl ?_
  have S := Sub.refl w
  refine RC.seq ?_
  refine RC.region rfl ?_
  refine RL.ev (.assign rfl) rfl rfl ?_
  refine RL.nil (RC.back ?_)
  refine RC.seq ?_
  refine RC.region rfl ?_
  refine RL.ev (.buildS ze29 pl29 rfl rfl) rfl rfl ?_
  refine RL.buildSlice1 sl26 _ ze29 rfl rfl rfl rfl rfl rfl rfl (fun b_7 w_7 e_7 z_7 hb_7 s_7 => ?_)
  have ge_7 := S.le e_7
  have S := S.trans s_7
  refine RL.call rfl ok18 (c_build9 9 one57 (some ⟨b_7, 0, none⟩) 1 1 rfl one57_ap one57_fit one57_ok (by omega) (by decide) (by decide) (by decide) w_7 (Has.sl0 (rows := one57.map It.cells) hb_7 it_rows)) rfl rfl ?_
  rintro _ w1 ⟨B, r, na, fa, nc, fc, rfl, hB, hnc, hfc, hi, s2⟩
  have hA := (hi (fun _ => False) (fun _ h => h.elim)).now
  have S := S.trans s2
  have hb_7 := hb_7.sub s2
  obtain ⟨W1, S1, hA⟩ : ∃ W, Sub W w1 ∧ ArR W na fa B := ⟨_, Sub.refl _, hA⟩
  have hT := hB.isH (by decide)
  have htab := tab_of (hB.ok (by decide) (by decide)) hT one57_ap (by decide)
  have hrow : rowH B r = one57 := List.perm_singleton.1 (rowH_perm hT)
  refine RL.ev (.move rfl) rfl rfl ?_
  refine RL.ev (.extract rfl rfl) rfl rfl ?_
  refine RL.ev (.extract rfl rfl) rfl rfl ?_
  refine RL.alloc ze34 rfl rfl (fun b_1 w_1 e_1 z_1 hb_1 s_1 => ?_)
  have ge_1 := S.le e_1
  have n_7__1 := hb_7.ne e_1
  have S := S.trans s_1
  have hb_7 := hb_7.sub s_1
  have geS1_1 := S1.le e_1
  have S1 := S1.trans s_1
  refine RL.store sh34 rfl rfl rfl hb_1 (by exact Nat.le_of_ble_eq_true rfl) (by rfl) rfl (fun w3 z3 hb_1 a3 => ?_)
  have S := S.upd a3 ge_1
  have hb_7 := hb_7.upd a3 n_7__1
  have S1 := S1.upd a3 geS1_1
  have hb_1 : Has w3 b_1 ([.slice na B.nodes.length nc, .slice fa B.free.length fc]) _ := hb_1.now (by kernel_rfl)
  refine RL.ev (.assign rfl) rfl rfl ?_
  refine RL.nil (RC.back ?_)
  refine RC.seq ?_
  refine RC.region rfl ?_
  refine RL.ev (.loadR ([.slice na B.nodes.length nc, .slice fa B.free.length fc]) sh34 rfl hb_1.row rfl) rfl rfl ?_
  refine RL.ev (.move rfl) rfl rfl ?_
  refine RL.call rfl ok24 (c_wFirst B na fa nc fc hnc hfc r hB.u w3 (hA.sub S1)) rfl rfl ?_
  rintro _ w4 ⟨s5, x, e, rfl, hf⟩
  have S := S.trans s5
  have hb_7 := hb_7.sub s5
  have S1 := S1.trans s5
  have hb_1 := hb_1.sub s5
  obtain ⟨y, hy, hxy, he⟩ := (hf.2 htab).resolve_right (fun h => by rw [hrow] at h; cases h.1)
  have hx : x = ⟨5, 7⟩ := (by rw [hxy]; rw [hrow] at hy; exact (Option.some.inj hy).symm)
  subst hx
  refine RL.ev (.move rfl) rfl rfl ?_
  refine RL.ev (.extract rfl rfl) rfl rfl ?_
  refine RL.ev (.extract rfl rfl) rfl rfl ?_
  refine RL.alloc ze29 rfl rfl (fun b_3 w_3 e_3 z_3 hb_3 s_3 => ?_)
  have ge_3 := S.le e_3
  have n_7__3 := hb_7.ne e_3
  have n_1__3 := hb_1.ne e_3
  have S := S.trans s_3
  have hb_7 := hb_7.sub s_3
  have geS1_3 := S1.le e_3
  have S1 := S1.trans s_3
  have hb_1 := hb_1.sub s_3
  refine RL.store sh29 rfl rfl rfl hb_3 (by exact Nat.le_of_ble_eq_true rfl) (by rfl) rfl (fun w6 z6 hb_3 a6 => ?_)
  have S := S.upd a6 ge_3
  have hb_7 := hb_7.upd a6 n_7__3
  have S1 := S1.upd a6 geS1_3
  have hb_1 := hb_1.upd a6 n_1__3
  have hb_3 : Has w6 b_3 ((⟨5, 7⟩ : It).cells) _ := hb_3.now (by kernel_rfl)
  refine RL.ev (.assign rfl) rfl rfl ?_
  refine RL.nil (RC.back ?_)
  refine RC.seq ?_
  refine RC.region rfl ?_
  refine RL.ev (.move rfl) rfl rfl ?_
  refine RL.ev (.as (v' := .bool true) (.bin rfl rfl rfl) (congrArg Value.bool (decide_eq_true (he)))) rfl rfl ?_
  refine RL.ev (.move rfl) rfl rfl ?_
  refine RL.ev (.loadR ((⟨5, 7⟩ : It).cells) sh29 rfl hb_3.row rfl) rfl rfl ?_
  refine RL.ev (.buildS ze29 pl29 rfl rfl) rfl rfl ?_
  refine RL.ev (.as (v' := .bool true) (.eqS (xs := (⟨5, 7⟩ : It).cells) (ys := (⟨5, 7⟩ : It).cells) fk29 eg29 sh29 rfl rfl rfl rfl rfl) (congrArg Value.bool (rfl))) rfl rfl ?_
  refine RL.ev (.pick_t rfl rfl) rfl rfl ?_
  refine RL.ev (.assign rfl) rfl rfl ?_
  refine RL.nil (RC.back ?_)
  refine RC.done (rs := [.tmp 0]) (vs := [_]) rfl rfl ⟨rfl, trivial⟩ ?_
  -- end 1
  exact ⟨rfl, S⟩
end Go.Proofs.Ytbfjobmebkhblaa
set_option linter.unusedVariables false
set_option linter.unusedSimpArgs false
namespace Go.Proofs.Ytbfjobmebkhblaa
open Go Go.XL
theorem eqL_it_iff (x y : It) : eqL x.cells y.cells = decide (x = y) := by
  obtain ⟨a, b⟩ := x
  obtain ⟨c, d⟩ := y
  simp [eqL, eq1, It.cells]
  rfl
theorem take_ext {l m : List It} {i : Nat} {x y : It} (hx : l[i]? = some x) (hy : m[i]? = some y) (h : l.take i = m.take i) (e : x = y) : l.take (i + 1) = m.take (i + 1) := by
  rw [List.take_add_one, List.take_add_one, hx, hy, h, e]
theorem c_same (l m : List It) (a b : Option Addr) (c d n k : Nat) (hn : n = l.length) (hk : k = m.length) (w : World) (hl : Sl w a 2 (l.map It.cells)) (hm : Sl w b 2 (m.map It.cells)) (hb : l.length ≤ 1000000) :
    FC Try.prog 22 [.slice a n c, .slice b k d] w (Val (.bool (decide (l = m))) w) := by
  subst hn hk
  refine FC.intro Try.func22 rfl Try.ntmps22 rfl ?_
  have S := Sub.refl w
  refine RC.seq ?_
  refine RC.region rfl ?_
  refine RL.ev (.assign rfl) rfl rfl ?_
  refine RL.nil (RC.back ?_)
  refine RC.seq ?_
  refine RC.seq ?_
  refine RC.region rfl ?_
  refine RL.ev (.move rfl) rfl rfl ?_
  refine RL.ev (.len sl26 rfl) rfl rfl ?_
  refine RL.ev (.move rfl) rfl rfl ?_
  refine RL.ev (.len sl26 rfl) rfl rfl ?_
  refine RL.ev (.bin rfl rfl rfl) rfl rfl ?_
  refine RL.nil (RC.back ?_)
  refine RC.cond_dec rfl (fun h1 => ?_) (fun h1 => ?_)
  ·
    have hne : ¬ l = m := (fun e => by subst e; exact absurd rfl h1)
    refine RC.seq ?_
    refine RC.region rfl ?_
    refine RL.ev (.assign rfl) rfl rfl ?_
    refine RL.nil (RC.back ?_)
    refine RC.done (rs := [.tmp 4]) (vs := [_]) rfl rfl ⟨rfl, trivial⟩ ?_
    -- end 1
    rw [decide_eq_false hne]
    exact ⟨rfl, S⟩
  ·
    have hlen : l.length = m.length := (by have := h1; omega)
    refine RC.skip (RC.back ?_)
    refine RC.seq ?_
    refine RC.seq ?_
    refine RC.region rfl ?_
    refine RL.ev (.move rfl) rfl rfl ?_
    refine RL.ev (.len sl26 rfl) rfl rfl ?_
    refine RL.ev (.move rfl) rfl rfl ?_
    refine RL.nil (RC.back ?_)
    refine RC.block ?_
    refine RC.loop (α := Nat) (fun i => [(0, .slice a l.length c), (1, .slice b m.length d), (12, .int .i64 (l.length : Int)), (13, .int .i64 (i : Int))]) (fun i w2 => (i ≤ l.length ∧ l.take i = m.take i) ∧ Sub w w2) (fun i => l.length - i) 0 (keep_of (by repeat (first | exact trivial | refine And.intro rfl ?_))) (⟨⟨Nat.zero_le _, by simp⟩, S⟩) (fun i w2 hJ => ?_)
    obtain ⟨⟨hi, hp⟩, S⟩ := hJ
    refine RC.seq ?_
    refine RC.region rfl ?_
    refine RL.ev (.bin rfl rfl rfl) rfl rfl ?_
    refine RL.nil (RC.back ?_)
    refine RC.seq ?_
    refine RC.cond_dec rfl (fun h3 => ?_) (fun h3 => ?_)
    ·
      obtain ⟨x, hx⟩ := getSome (l := l) (i := i) (by omega)
      obtain ⟨y, hy⟩ := getSome (l := m) (i := i) (by omega)
      refine RC.skip (RC.back ?_)
      refine RC.seq ?_
      refine RC.block ?_
      refine RC.seq ?_
      refine RC.region rfl ?_
      refine RL.ev (.move rfl) rfl rfl ?_
      refine RL.ev (.assign rfl) rfl rfl ?_
      refine RL.nil (RC.back ?_)
      refine RC.seq ?_
      refine RC.draw rfl mxo (by kernel_rfl) ?_
      refine RQ.ev (.move rfl) rfl rfl ?_
      refine RQ.ev (.move rfl) rfl rfl ?_
      refine RQ.ev (.indexS sl26 rfl rfl (by omega) (hl.is (i := 0) (by simp only [List.length_map, List.length_cons, List.length_nil]; omega))) rfl rfl ?_
      refine RQ.ev (.loadR (x.cells) sh29 rfl ((hl.sub S).rowAt (enc := It.cells) (i := i) hx) rfl) rfl rfl ?_
      refine RQ.ev (.move rfl) rfl rfl ?_
      refine RQ.ev (.move rfl) rfl rfl ?_
      refine RQ.ev (.indexS sl26 rfl rfl (by omega) (hm.is (i := 0) (by simp only [List.length_map, List.length_cons, List.length_nil]; omega))) rfl rfl ?_
      refine RQ.ev (.loadR (y.cells) sh29 rfl ((hm.sub S).rowAt (enc := It.cells) (i := i) hy) rfl) rfl rfl ?_
      refine RQ.ev (.neS (xs := x.cells) (ys := y.cells) fk29 eg29 sh29 rfl rfl rfl rfl rfl) rfl rfl ?_
      refine RQ.nil (fun w4 s5 => RC.back ?_)
      have S := S.trans s5
      refine RC.cond rfl (fun h6 => ?_) (fun h6 => ?_)
      ·
        have hxy : ¬ x = y := (fun e => by have h2 := h6; rw [eqL_it_iff, decide_eq_true e] at h2; cases h2)
        have hne : ¬ l = m := (fun e => by subst e; rw [hx] at hy; cases hy; exact hxy rfl)
        refine RC.seq ?_
        refine RC.region rfl ?_
        refine RL.ev (.assign rfl) rfl rfl ?_
        refine RL.nil (RC.back ?_)
        refine RC.done (rs := [.tmp 4]) (vs := [_]) rfl rfl ⟨rfl, trivial⟩ ?_
        -- end 2
        rw [decide_eq_false hne]
        exact ⟨rfl, S⟩
      ·
        have hxy : x = y := (by have h2 := h6; rw [eqL_it_iff] at h2; simpa using h2)
        refine RC.skip (RC.back ?_)
        refine RC.region rfl ?_
        refine RL.ev (.as (.bin rfl rfl rfl) (wi64 (y := ((i + 1 : Nat) : Int)) (by omega) (by omega))) rfl rfl ?_
        refine RL.ev (.move rfl) rfl rfl ?_
        exact RL.nil (fun a ka => ⟨i + 1, ⟨⟨by omega, take_ext hx hy hp hxy⟩, S⟩, by omega, ka.keep (keep_of (by repeat (first | exact trivial | refine And.intro rfl ?_)))⟩)
    ·
      obtain rfl : i = l.length := (by omega)
      rw [List.take_length, hlen, List.take_length] at hp
      refine RC.exit rfl (RC.back ?_)
      refine RC.seq ?_
      refine RC.region rfl ?_
      refine RL.ev (.assign rfl) rfl rfl ?_
      refine RL.nil (RC.back ?_)
      refine RC.done (rs := [.tmp 4]) (vs := [_]) rfl rfl ⟨rfl, trivial⟩ ?_
      -- end 3
      rw [decide_eq_true hp]
      exact ⟨rfl, S⟩
end Go.Proofs.Ytbfjobmebkhblaa
set_option linter.unusedVariables false
set_option linter.unusedSimpArgs false
namespace Go.Proofs.Ytbfjobmebkhblaa
open Go Go.XL
theorem find_at {p : It → Bool} {R : List It} {i : Nat} {z : It} (h0 : (R.take i).find? p = none) (hz : R[i]? = some z) (h : p z = true) : R.find? p = some z := by
  have hi := lt_of_get hz
  have e : R = R.take i ++ z :: R.drop (i + 1) := by
    conv => lhs; rw [← List.take_append_drop i R]
    rw [List.drop_eq_getElem_cons hi]
    rw [List.getElem?_eq_getElem hi] at hz
    rw [Option.some.inj hz]
  rw [e, List.find?_append, h0, List.find?_cons_of_pos h]; rfl
theorem find_next {p : It → Bool} {R : List It} {i : Nat} {z : It} (h0 : (R.take i).find? p = none) (hz : R[i]? = some z) (h : ¬ p z = true) : (R.take (i + 1)).find? p = none := by
  rw [List.take_add_one, hz, List.find?_append, h0]
  show (none : Option It).or (List.find? p [z]) = none
  rw [List.find?_cons_of_neg h]; rfl
theorem fnd_some {A : Ar} {r : Int} {o : Option It} {x y : It} {e : Int} (h : FndP A r o x e) (ht : isTab A r) (ho : o = some y) : x = y ∧ e = 0 := by
  obtain ⟨z, h1, h2, h3⟩ := (h.2 ht).resolve_right (fun h => by rw [ho] at h; cases h.1)
  rw [ho] at h1
  exact ⟨h2.trans (Option.some.inj h1).symm, h3⟩
theorem fnd_none {A : Ar} {r : Int} {o : Option It} {x : It} {e : Int} (h : FndP A r o x e) (ht : isTab A r) (ho : o = none) : x = ⟨0, 0⟩ ∧ e = 3 :=
  ((h.2 ht).resolve_left (fun ⟨y, h, _⟩ => by rw [ho] at h; cases h)).2
set_option maxHeartbeats 4000000 in
theorem law_WalkTells (w : World) (A0 : Ar) (na fa : Option Addr) (nc fc : Nat) (hnc0 : A0.nodes.length ≤ nc) (hfc0 : A0.free.length ≤ fc) (hA0 : ArR w na fa A0) (r : Int) (wr : (Lit.int .u64 r).wf = true) (key : Int) (wk : (Lit.int .i64 key).wf = true) (other : Int) (wo : (Lit.int .i64 other).wf = true) :
    FC Try.prog 6 [arV na fa nc fc A0, .int .u64 r, .int .i64 key, .int .i64 other] w (Val (.bool true) w) := by
  have hr := wfU wr
  have hA := few10_R hA0
  have hn60 : (few130 A0).nodes.length ≤ 130 := by simp only [few130, List.length_take]; omega
  have hnc : (few130 A0).nodes.length ≤ nc := by simp only [few130, List.length_take]; omega
  have hfc : (few130 A0).free.length ≤ fc := by simp only [few130, List.length_take]; omega
  obtain ⟨A, hAe⟩ : ∃ A, few130 A0 = A := ⟨_, rfl⟩
  rw [hAe] at hA hn60 hnc hfc
  refine FC.intro Try.func6 rfl Try.ntmps6 rfl ?_
  have S := Sub.refl w
  refine RC.seq ?_
  refine RC.region rfl ?_
  refine RL.box rfl rfl rfl (fun b_4 w_4 e_4 z_4 hb_4 s_4 => ?_)
  have ge_4 := S.le e_4
  have S := S.trans s_4
  have hb_4 : Has w_4 b_4 ([.slice na A0.nodes.length nc, .slice fa A0.free.length fc]) _ := hb_4
  refine RL.ev (.assign rfl) rfl rfl ?_
  refine RL.nil (RC.back ?_)
  refine RC.seq ?_
  refine RC.region rfl ?_
  refine RL.ev (.loadR ([.slice na A0.nodes.length nc, .slice fa A0.free.length fc]) sh34 rfl hb_4.row rfl) rfl rfl ?_
  refine RL.call rfl ok23 ((hAe ▸ c_few10 A0 na fa nc fc hnc0 hfc0 w_4)) rfl rfl ?_
  rintro _ w1 ⟨rfl, s2⟩
  have S := S.trans s2
  have hb_4 := hb_4.sub s2
  refine RL.store sh34 rfl rfl rfl hb_4 (by exact Nat.le_of_ble_eq_true rfl) (by rfl) rfl (fun w3 z3 hb_4 a3 => ?_)
  have S := S.upd a3 ge_4
  have hb_4 : Has w3 b_4 ([.slice na A.nodes.length nc, .slice fa A.free.length fc]) _ := hb_4.now (by kernel_rfl)
  refine RL.nil (RC.back ?_)
  refine RC.seq ?_
  refine RC.region rfl ?_
  refine RL.ev (.loadR ([.slice na A.nodes.length nc, .slice fa A.free.length fc]) sh34 rfl hb_4.row rfl) rfl rfl ?_
  refine RL.ev (.move rfl) rfl rfl ?_
  refine RL.call rfl ok21 (c_wAll A na fa nc fc hnc hfc r hr w3 (hA.sub S)) rfl rfl ?_
  rintro _ w4 ⟨s5, a1, c1, rows, e1, rfl, hl1, hn1, hy1⟩
  have S := S.trans s5
  have hb_4 := hb_4.sub s5
  obtain ⟨W1, S1, hl1⟩ : ∃ W1, Sub W1 w4 ∧ Sl W1 a1 2 (rows.map It.cells) := ⟨_, Sub.refl _, hl1⟩
  refine RL.ev (.move rfl) rfl rfl ?_
  refine RL.ev (.extract rfl rfl) rfl rfl ?_
  refine RL.ev (.extract rfl rfl) rfl rfl ?_
  refine RL.ev (.assign rfl) rfl rfl ?_
  refine RL.ev (.assign rfl) rfl rfl ?_
  refine RL.nil (RC.back ?_)
  refine RC.seq ?_
  refine RC.region rfl ?_
  refine RL.ev (.loadR ([.slice na A.nodes.length nc, .slice fa A.free.length fc]) sh34 rfl hb_4.row rfl) rfl rfl ?_
  refine RL.ev (.move rfl) rfl rfl ?_
  refine RL.call rfl ok24 (c_wFirst A na fa nc fc hnc hfc r hr w4 (hA.sub S)) rfl rfl ?_
  rintro _ w6 ⟨s7, x2, e2, rfl, hf2⟩
  have S := S.trans s7
  have hb_4 := hb_4.sub s7
  have S1 := S1.trans s7
  refine RL.ev (.move rfl) rfl rfl ?_
  refine RL.ev (.extract rfl rfl) rfl rfl ?_
  refine RL.ev (.extract rfl rfl) rfl rfl ?_
  refine RL.alloc ze29 rfl rfl (fun b_11 w_11 e_11 z_11 hb_11 s_11 => ?_)
  have ge_11 := S.le e_11
  have n_4__11 := hb_4.ne e_11
  have S := S.trans s_11
  have hb_4 := hb_4.sub s_11
  have geS1_11 := S1.le e_11
  have S1 := S1.trans s_11
  refine RL.store sh29 rfl rfl rfl hb_11 (by exact Nat.le_of_ble_eq_true rfl) (by rfl) rfl (fun w8 z8 hb_11 a8 => ?_)
  have S := S.upd a8 ge_11
  have hb_4 := hb_4.upd a8 n_4__11
  have S1 := S1.upd a8 geS1_11
  have hb_11 : Has w8 b_11 (x2.cells) _ := hb_11.now (by kernel_rfl)
  refine RL.ev (.assign rfl) rfl rfl ?_
  refine RL.nil (RC.back ?_)
  refine RC.seq ?_
  refine RC.region rfl ?_
  refine RL.ev (.loadR ([.slice na A.nodes.length nc, .slice fa A.free.length fc]) sh34 rfl hb_4.row rfl) rfl rfl ?_
  refine RL.ev (.move rfl) rfl rfl ?_
  refine RL.ev (.move rfl) rfl rfl ?_
  refine RL.call rfl ok19 (c_wNext A na fa nc fc hnc hfc r hr key w8 (hA.sub S)) rfl rfl ?_
  rintro _ w9 ⟨s10, x3, e3, rfl, hf3⟩
  have S := S.trans s10
  have hb_4 := hb_4.sub s10
  have S1 := S1.trans s10
  have hb_11 := hb_11.sub s10
  refine RL.ev (.move rfl) rfl rfl ?_
  refine RL.ev (.extract rfl rfl) rfl rfl ?_
  refine RL.ev (.extract rfl rfl) rfl rfl ?_
  refine RL.alloc ze29 rfl rfl (fun b_13 w_13 e_13 z_13 hb_13 s_13 => ?_)
  have ge_13 := S.le e_13
  have n_4__13 := hb_4.ne e_13
  have n_11__13 := hb_11.ne e_13
  have S := S.trans s_13
  have hb_4 := hb_4.sub s_13
  have geS1_13 := S1.le e_13
  have S1 := S1.trans s_13
  have hb_11 := hb_11.sub s_13
  refine RL.store sh29 rfl rfl rfl hb_13 (by exact Nat.le_of_ble_eq_true rfl) (by rfl) rfl (fun w11 z11 hb_13 a11 => ?_)
  have S := S.upd a11 ge_13
  have hb_4 := hb_4.upd a11 n_4__13
  have S1 := S1.upd a11 geS1_13
  have hb_11 := hb_11.upd a11 n_11__13
  have hb_13 : Has w11 b_13 (x3.cells) _ := hb_13.now (by kernel_rfl)
  refine RL.ev (.assign rfl) rfl rfl ?_
  refine RL.nil (RC.back ?_)
  refine RC.seq ?_
  refine RC.region rfl ?_
  refine RL.ev (.buildS ze29 pl29 rfl rfl) rfl rfl ?_
  refine RL.alloc ze29 rfl rfl (fun b_15 w_15 e_15 z_15 hb_15 s_15 => ?_)
  have ge_15 := S.le e_15
  have n_4__15 := hb_4.ne e_15
  have n_11__15 := hb_11.ne e_15
  have n_13__15 := hb_13.ne e_15
  have S := S.trans s_15
  have hb_4 := hb_4.sub s_15
  have geS1_15 := S1.le e_15
  have S1 := S1.trans s_15
  have hb_11 := hb_11.sub s_15
  have hb_13 := hb_13.sub s_15
  refine RL.store sh29 rfl rfl rfl hb_15 (by exact Nat.le_of_ble_eq_true rfl) (by rfl) rfl (fun w12 z12 hb_15 a12 => ?_)
  have S := S.upd a12 ge_15
  have hb_4 := hb_4.upd a12 n_4__15
  have S1 := S1.upd a12 geS1_15
  have hb_11 := hb_11.upd a12 n_11__15
  have hb_13 := hb_13.upd a12 n_13__15
  have hb_15 : Has w12 b_15 ((⟨0, 0⟩ : It).cells) _ := hb_15.now (by kernel_rfl)
  refine RL.nil (RC.back ?_)
  refine RC.seq ?_
  refine RC.seq ?_
  refine RC.region rfl ?_
  refine RL.ev (.move rfl) rfl rfl ?_
  refine RL.ev (.move rfl) rfl rfl ?_
  refine RL.call rfl ok14 (c_wLess key other w12) rfl rfl ?_
  rintro _ w13 ⟨rfl, s14⟩
  have S := S.trans s14
  have hb_4 := hb_4.sub s14
  have S1 := S1.trans s14
  have hb_11 := hb_11.sub s14
  have hb_13 := hb_13.sub s14
  have hb_15 := hb_15.sub s14
  refine RL.ev (.move rfl) rfl rfl ?_
  refine RL.ev (.move rfl) rfl rfl ?_
  refine RL.call rfl ok25 (c_rLess key other w13) rfl rfl ?_
  rintro _ w15 ⟨rfl, s16⟩
  have S := S.trans s16
  have hb_4 := hb_4.sub s16
  have S1 := S1.trans s16
  have hb_11 := hb_11.sub s16
  have hb_13 := hb_13.sub s16
  have hb_15 := hb_15.sub s16
  refine RL.ev (.as (v' := .bool false) (.neB bo4 rfl rfl) (congrArg Value.bool (bne_self_eq_false _))) rfl rfl ?_
  refine RL.ev (.move rfl) rfl rfl ?_
  refine RL.call rfl ok15 (c_alive10 w15) rfl rfl ?_
  rintro _ w17 ⟨rfl, s18⟩
  have S := S.trans s18
  have hb_4 := hb_4.sub s18
  have S1 := S1.trans s18
  have hb_11 := hb_11.sub s18
  have hb_13 := hb_13.sub s18
  have hb_15 := hb_15.sub s18
  refine RL.ev (.not rfl) rfl rfl ?_
  refine RL.ev (.pick_f rfl rfl) rfl rfl ?_
  refine RL.nil (RC.back ?_)
  refine RC.cond_f rfl ?_
  refine RC.skip (RC.back ?_)
  refine RC.seq ?_
  refine RC.seq ?_
  refine RC.region rfl ?_
  refine RL.ev (.loadR ([.slice na A.nodes.length nc, .slice fa A.free.length fc]) sh34 rfl hb_4.row rfl) rfl rfl ?_
  refine RL.ev (.move rfl) rfl rfl ?_
  refine RL.call rfl ok26 (c_right9 A na fa nc fc (by omega) r hr w17 (hA.sub S)) rfl rfl ?_
  rintro _ w19 ⟨rfl, s20⟩
  have S := S.trans s20
  have hb_4 := hb_4.sub s20
  have S1 := S1.trans s20
  have hb_11 := hb_11.sub s20
  have hb_13 := hb_13.sub s20
  have hb_15 := hb_15.sub s20
  refine RL.ev (.not rfl) rfl rfl ?_
  refine RL.nil (RC.back ?_)
  refine RC.cond rfl (fun h21 => ?_) (fun h21 => ?_)
  ·
    have hno : ¬ isTab A r := (fun h => by have h2 := h21; rw [isTabB_yes h] at h2; cases h2)
    obtain ⟨q1, q1e⟩ := hn1 hno
    obtain ⟨q2, q2e⟩ := hf2.1 hno
    obtain ⟨q3, q3e⟩ := hf3.1 hno
    refine RC.seq ?_
    refine RC.region rfl ?_
    refine RL.ev (.assign rfl) rfl rfl ?_
    refine RL.nil (RC.back ?_)
    refine RC.seq ?_
    refine RC.region rfl ?_
    refine RL.ev (.move rfl) rfl rfl ?_
    refine RL.ev (.move rfl) rfl rfl ?_
    refine RL.ev (.as (v' := .bool true) (.bin rfl rfl rfl) (congrArg Value.bool (decide_eq_true (q1e)))) rfl rfl ?_
    refine RL.ev (.move rfl) rfl rfl ?_
    refine RL.ev (.move rfl) rfl rfl ?_
    refine RL.ev (.move rfl) rfl rfl ?_
    refine RL.ev (.as (v' := .bool true) (.bin rfl rfl rfl) (congrArg Value.bool (decide_eq_true (q2e)))) rfl rfl ?_
    refine RL.ev (.pick_t rfl rfl) rfl rfl ?_
    refine RL.ev (.move rfl) rfl rfl ?_
    refine RL.ev (.move rfl) rfl rfl ?_
    refine RL.ev (.move rfl) rfl rfl ?_
    refine RL.ev (.as (v' := .bool true) (.bin rfl rfl rfl) (congrArg Value.bool (decide_eq_true (q3e)))) rfl rfl ?_
    refine RL.ev (.pick_t rfl rfl) rfl rfl ?_
    refine RL.ev (.move rfl) rfl rfl ?_
    refine RL.ev (.move rfl) rfl rfl ?_
    refine RL.ev (.len sl26 rfl) rfl rfl ?_
    refine RL.ev (.as (v' := .bool true) (.bin rfl rfl rfl) (congrArg Value.bool (decide_eq_true (by rw [q1]; rfl)))) rfl rfl ?_
    refine RL.ev (.pick_t rfl rfl) rfl rfl ?_
    refine RL.ev (.move rfl) rfl rfl ?_
    refine RL.ev (.loadR (x2.cells) sh29 rfl hb_11.row rfl) rfl rfl ?_
    refine RL.ev (.loadR ((⟨0, 0⟩ : It).cells) sh29 rfl hb_15.row rfl) rfl rfl ?_
    refine RL.ev (.as (v' := .bool true) (.eqS (xs := x2.cells) (ys := (⟨0, 0⟩ : It).cells) fk29 eg29 sh29 rfl rfl rfl rfl rfl) (congrArg Value.bool (by rw [eqL_it_iff]; exact decide_eq_true q2))) rfl rfl ?_
    refine RL.ev (.pick_t rfl rfl) rfl rfl ?_
    refine RL.ev (.move rfl) rfl rfl ?_
    refine RL.ev (.loadR (x3.cells) sh29 rfl hb_13.row rfl) rfl rfl ?_
    refine RL.ev (.loadR ((⟨0, 0⟩ : It).cells) sh29 rfl hb_15.row rfl) rfl rfl ?_
    refine RL.ev (.as (v' := .bool true) (.eqS (xs := x3.cells) (ys := (⟨0, 0⟩ : It).cells) fk29 eg29 sh29 rfl rfl rfl rfl rfl) (congrArg Value.bool (by rw [eqL_it_iff]; exact decide_eq_true q3))) rfl rfl ?_
    refine RL.ev (.pick_t rfl rfl) rfl rfl ?_
    refine RL.ev (.assign rfl) rfl rfl ?_
    refine RL.nil (RC.back ?_)
    refine RC.done (rs := [.tmp 8]) (vs := [_]) rfl rfl ⟨rfl, trivial⟩ ?_
    -- end 1
    exact ⟨rfl, S⟩
  ·
    have htab : isTab A r := (isTabB_iff A r).1 (by simpa using h21)
    obtain ⟨hrw, q1e⟩ := hy1 htab
    obtain ⟨hok, L, hT, hap, hL200⟩ := id htab
    have hwl := rowH_wl hT
    have hlen := (rowH_perm hT).length_eq
    have hread := readT_rowH hT hap
    obtain ⟨R, hR⟩ : ∃ R, rowH A r = R := ⟨_, rfl⟩
    rw [hR] at hrw hwl hlen hread hf2
    have hfk : findK A r key = R.find? fun x => lessK key x.k := (by unfold findK; rw [hR])
    rw [hfk] at hf3
    refine RC.skip (RC.back ?_)
    refine RC.seq ?_
    refine RC.region rfl ?_
    refine RL.ev (.loadR ([.slice na A.nodes.length nc, .slice fa A.free.length fc]) sh34 rfl hb_4.row rfl) rfl rfl ?_
    refine RL.ev (.move rfl) rfl rfl ?_
    refine RL.call rfl ok28 (c_row9 A na fa nc fc (by omega) r hr w19 (hA.sub S)) rfl rfl ?_
    rintro vR w22 ⟨s23, ra, rc, hvr, hl, hrc, _⟩
    have S := S.trans s23
    have hb_4 := hb_4.sub s23
    have S1 := S1.trans s23
    have hb_11 := hb_11.sub s23
    have hb_13 := hb_13.sub s23
    have hb_15 := hb_15.sub s23
    rw [hread] at hvr hl hrc
    subst hvr
    refine RL.call rfl ok27 (c_rSorted R hwl ra rc _ rfl (by omega) w22 hl) rfl rfl ?_
    rintro _ w24 ⟨s25, sa, sc, rfl, hl4⟩
    have S := S.trans s25
    have hb_4 := hb_4.sub s25
    have S1 := S1.trans s25
    have hb_11 := hb_11.sub s25
    have hb_13 := hb_13.sub s25
    have hb_15 := hb_15.sub s25
    obtain ⟨W4, S4, hl4⟩ : ∃ W4, Sub W4 w24 ∧ Sl W4 sa 2 (R.map It.cells) := ⟨_, Sub.refl _, hl4⟩
    refine RL.ev (.assign rfl) rfl rfl ?_
    refine RL.nil (RC.back ?_)
    refine RC.seq ?_
    refine RC.seq ?_
    refine RC.region rfl ?_
    refine RL.ev (.move rfl) rfl rfl ?_
    refine RL.ev (.as (v' := .bool false) (.bin rfl rfl rfl) (congrArg Value.bool (decide_eq_false (fun h => h q1e)))) rfl rfl ?_
    refine RL.ev (.move rfl) rfl rfl ?_
    refine RL.ev (.move rfl) rfl rfl ?_
    refine RL.ev (.move rfl) rfl rfl ?_
    refine RL.call rfl ok22 (c_same rows R a1 sa c1 sc _ _ rfl rfl w24 (hl1.sub S1) (hl4.sub S4) (by rw [hrw]; omega)) rfl rfl ?_
    rintro _ w26 ⟨rfl, s27⟩
    have S := S.trans s27
    have hb_4 := hb_4.sub s27
    have S1 := S1.trans s27
    have hb_11 := hb_11.sub s27
    have hb_13 := hb_13.sub s27
    have hb_15 := hb_15.sub s27
    have S4 := S4.trans s27
    refine RL.ev (.as (v' := .bool false) (.not_dec rfl) (congrArg Value.bool (decide_eq_false (fun h => h hrw)))) rfl rfl ?_
    refine RL.ev (.pick_f rfl rfl) rfl rfl ?_
    refine RL.nil (RC.back ?_)
    refine RC.cond_f rfl ?_
    refine RC.skip (RC.back ?_)
    refine RC.seq ?_
    refine RC.seq ?_
    refine RC.region rfl ?_
    refine RL.ev (.move rfl) rfl rfl ?_
    refine RL.ev (.len sl26 rfl) rfl rfl ?_
    refine RL.ev (.bin rfl rfl rfl) rfl rfl ?_
    refine RL.nil (RC.back ?_)
    refine RC.cond_dec rfl (fun h28 => ?_) (fun h28 => ?_)
    ·
      have hR0 : R = [] := List.eq_nil_of_length_eq_zero (by have := h28; omega)
      obtain ⟨q2, q2e⟩ := fnd_none hf2 htab (by rw [hR0]; rfl)
      obtain ⟨q3, q3e⟩ := fnd_none hf3 htab (by rw [hR0]; rfl)
      refine RC.seq ?_
      refine RC.region rfl ?_
      refine RL.ev (.move rfl) rfl rfl ?_
      refine RL.ev (.as (v' := .bool true) (.bin rfl rfl rfl) (congrArg Value.bool (decide_eq_true (q2e)))) rfl rfl ?_
      refine RL.ev (.move rfl) rfl rfl ?_
      refine RL.ev (.move rfl) rfl rfl ?_
      refine RL.ev (.as (v' := .bool true) (.bin rfl rfl rfl) (congrArg Value.bool (decide_eq_true (q3e)))) rfl rfl ?_
      refine RL.ev (.pick_t rfl rfl) rfl rfl ?_
      refine RL.ev (.move rfl) rfl rfl ?_
      refine RL.ev (.loadR (x2.cells) sh29 rfl hb_11.row rfl) rfl rfl ?_
      refine RL.ev (.loadR ((⟨0, 0⟩ : It).cells) sh29 rfl hb_15.row rfl) rfl rfl ?_
      refine RL.ev (.as (v' := .bool true) (.eqS (xs := x2.cells) (ys := (⟨0, 0⟩ : It).cells) fk29 eg29 sh29 rfl rfl rfl rfl rfl) (congrArg Value.bool (by rw [eqL_it_iff]; exact decide_eq_true q2))) rfl rfl ?_
      refine RL.ev (.pick_t rfl rfl) rfl rfl ?_
      refine RL.ev (.move rfl) rfl rfl ?_
      refine RL.ev (.loadR (x3.cells) sh29 rfl hb_13.row rfl) rfl rfl ?_
      refine RL.ev (.loadR ((⟨0, 0⟩ : It).cells) sh29 rfl hb_15.row rfl) rfl rfl ?_
      refine RL.ev (.as (v' := .bool true) (.eqS (xs := x3.cells) (ys := (⟨0, 0⟩ : It).cells) fk29 eg29 sh29 rfl rfl rfl rfl rfl) (congrArg Value.bool (by rw [eqL_it_iff]; exact decide_eq_true q3))) rfl rfl ?_
      refine RL.ev (.pick_t rfl rfl) rfl rfl ?_
      refine RL.ev (.assign rfl) rfl rfl ?_
      refine RL.nil (RC.back ?_)
      refine RC.done (rs := [.tmp 8]) (vs := [_]) rfl rfl ⟨rfl, trivial⟩ ?_
      -- end 2
      exact ⟨rfl, S⟩
    ·
      have hR1 : 0 < R.length := (by have := h28; omega)
      obtain ⟨z0, hz0⟩ := getSome (l := R) (i := 0) hR1
      have q2 := fnd_some hf2 htab (by rw [List.head?_eq_getElem?]; exact hz0)
      have hl5 := hl4.sub S4
      refine RC.skip (RC.back ?_)
      refine RC.seq ?_
      refine RC.seq ?_
      refine RC.draw rfl mxo (by kernel_rfl) ?_
      refine RQ.ev (.move rfl) rfl rfl ?_
      refine RQ.ev (.as (v' := .bool false) (.bin rfl rfl rfl) (congrArg Value.bool (decide_eq_false (fun h => h q2.2)))) rfl rfl ?_
      refine RQ.ev (.move rfl) rfl rfl ?_
      refine RQ.ev (.loadR (x2.cells) sh29 rfl hb_11.row rfl) rfl rfl ?_
      refine RQ.ev (.move rfl) rfl rfl ?_
      refine RQ.ev (.indexS sl26 rfl rfl (by omega) (hl5.is (i := 0) (by simp only [List.length_map]; omega))) rfl rfl ?_
      refine RQ.ev (.loadR (z0.cells) sh29 rfl (hl5.rowAt (enc := It.cells) (i := 0) hz0) rfl) rfl rfl ?_
      refine RQ.ev (.as (v' := .bool false) (.neS (xs := x2.cells) (ys := z0.cells) fk29 eg29 sh29 rfl rfl rfl rfl rfl) (congrArg Value.bool (by rw [eqL_it_iff, q2.1]; simp))) rfl rfl ?_
      refine RQ.ev (.pick_f rfl rfl) rfl rfl ?_
      refine RQ.nil (fun w29 s30 => RC.back ?_)
      have S := S.trans s30
      have hb_4 := hb_4.sub s30
      have S1 := S1.trans s30
      have hb_11 := hb_11.sub s30
      have hb_13 := hb_13.sub s30
      have hb_15 := hb_15.sub s30
      have S4 := S4.trans s30
      refine RC.cond_f rfl ?_
      refine RC.skip (RC.back ?_)
      refine RC.seq ?_
      refine RC.seq ?_
      refine RC.region rfl ?_
      refine RL.ev (.move rfl) rfl rfl ?_
      refine RL.ev (.len sl26 rfl) rfl rfl ?_
      refine RL.ev (.move rfl) rfl rfl ?_
      refine RL.nil (RC.back ?_)
      refine RC.block ?_
      refine RC.loop (α := Nat) (fun i => [(2, .int .i64 key), (13, .pointer (some ⟨b_13, 0, none⟩)), (14, .int .i64 e3), (15, .pointer (some ⟨b_15, 0, none⟩)), (125, .slice sa R.length sc), (126, .int .i64 (R.length : Int)), (127, .int .i64 (i : Int))]) (fun i w31 => (i ≤ R.length ∧ ((R.take i).find? fun x => lessK key x.k) = none) ∧ Has w31 b_13 x3.cells 29 ∧ Has w31 b_15 (⟨0, 0⟩ : It).cells 29 ∧ Sub W4 w31 ∧ Sub w w31) (fun i => R.length - i) 0 (keep_of (by repeat (first | exact trivial | refine And.intro rfl ?_))) (⟨⟨Nat.zero_le _, rfl⟩, hb_13, hb_15, S4, S⟩) (fun i w31 hJ => ?_)
      obtain ⟨⟨hi, hpre⟩, hb_13, hb_15, S4, S⟩ := hJ; have hl5 := hl4.sub S4
      refine RC.seq ?_
      refine RC.region rfl ?_
      refine RL.ev (.bin rfl rfl rfl) rfl rfl ?_
      refine RL.nil (RC.back ?_)
      refine RC.seq ?_
      refine RC.cond_dec rfl (fun h32 => ?_) (fun h32 => ?_)
      ·
        obtain ⟨z, hz⟩ := getSome (l := R) (i := i) (by omega)
        refine RC.skip (RC.back ?_)
        refine RC.seq ?_
        refine RC.block ?_
        refine RC.seq ?_
        refine RC.region rfl ?_
        refine RL.ev (.indexS sl26 rfl rfl (by omega) (hl5.is (i := 0) (by simp only [List.length_map, List.length_cons, List.length_nil]; omega))) rfl rfl ?_
        refine RL.ev (.loadR (z.cells) sh29 rfl (hl5.rowAt (enc := It.cells) (i := i) hz) rfl) rfl rfl ?_
        refine RL.alloc ze29 rfl rfl (fun b_19 w_19 e_19 z_19 hb_19 s_19 => ?_)
        have ge_19 := S.le e_19
        have n_13__19 := hb_13.ne e_19
        have n_15__19 := hb_15.ne e_19
        have S := S.trans s_19
        have geS4_19 := S4.le e_19
        have S4 := S4.trans s_19
        have hb_13 := hb_13.sub s_19
        have hb_15 := hb_15.sub s_19
        refine RL.store sh29 rfl rfl rfl hb_19 (by exact Nat.le_of_ble_eq_true rfl) (by rfl) rfl (fun w33 z33 hb_19 a33 => ?_)
        have S := S.upd a33 ge_19
        have S4 := S4.upd a33 geS4_19
        have hb_13 := hb_13.upd a33 n_13__19
        have hb_15 := hb_15.upd a33 n_15__19
        have hb_19 : Has w33 b_19 (z.cells) _ := hb_19.now (by kernel_rfl)
        refine RL.nil (RC.back ?_)
        refine RC.seq ?_
        refine RC.region rfl ?_
        refine RL.ev (.move rfl) rfl rfl ?_
        refine RL.ev (.field0 fo29_0 rfl) rfl rfl ?_
        refine RL.ev (.load1 sh2 rfl (hb_19.cell rfl)) rfl rfl ?_
        refine RL.call rfl ok25 (c_rLess key z.k w33) rfl rfl ?_
        rintro _ w34 ⟨rfl, s35⟩
        have S := S.trans s35
        have S4 := S4.trans s35
        have hb_13 := hb_13.sub s35
        have hb_15 := hb_15.sub s35
        have hb_19 := hb_19.sub s35
        refine RL.nil (RC.back ?_)
        refine RC.cond rfl (fun h36 => ?_) (fun h36 => ?_)
        ·
          obtain ⟨q3, q3e⟩ := fnd_some hf3 htab (find_at (p := fun x => lessK key x.k) hpre hz h36)
          refine RC.seq ?_
          refine RC.region rfl ?_
          refine RL.ev (.move rfl) rfl rfl ?_
          refine RL.ev (.as (v' := .bool true) (.bin rfl rfl rfl) (congrArg Value.bool (decide_eq_true (q3e)))) rfl rfl ?_
          refine RL.ev (.move rfl) rfl rfl ?_
          refine RL.ev (.loadR (x3.cells) sh29 rfl hb_13.row rfl) rfl rfl ?_
          refine RL.ev (.loadR (z.cells) sh29 rfl hb_19.row rfl) rfl rfl ?_
          refine RL.ev (.as (v' := .bool true) (.eqS (xs := x3.cells) (ys := z.cells) fk29 eg29 sh29 rfl rfl rfl rfl rfl) (congrArg Value.bool (by rw [eqL_it_iff]; exact decide_eq_true q3))) rfl rfl ?_
          refine RL.ev (.pick_t rfl rfl) rfl rfl ?_
          refine RL.ev (.assign rfl) rfl rfl ?_
          refine RL.nil (RC.back ?_)
          refine RC.done (rs := [.tmp 8]) (vs := [_]) rfl rfl ⟨rfl, trivial⟩ ?_
          -- end 3
          exact ⟨rfl, S⟩
        ·
          have hpre2 := find_next (p := fun x => lessK key x.k) hpre hz (by have := h36; simp [this])
          refine RC.skip (RC.back ?_)
          refine RC.region rfl ?_
          refine RL.ev (.as (.bin rfl rfl rfl) (wi64 (y := ((i + 1 : Nat) : Int)) (by omega) (by omega))) rfl rfl ?_
          refine RL.ev (.move rfl) rfl rfl ?_
          exact RL.nil (fun a ka => ⟨i + 1, ⟨⟨by omega, hpre2⟩, hb_13, hb_15, S4, S⟩, by omega, ka.keep (keep_of (by repeat (first | exact trivial | refine And.intro rfl ?_)))⟩)
      ·
        obtain rfl : i = R.length := (by omega)
        rw [List.take_length] at hpre
        obtain ⟨q3, q3e⟩ := fnd_none hf3 htab hpre
        refine RC.exit rfl (RC.back ?_)
        refine RC.seq ?_
        refine RC.region rfl ?_
        refine RL.ev (.move rfl) rfl rfl ?_
        refine RL.ev (.as (v' := .bool true) (.bin rfl rfl rfl) (congrArg Value.bool (decide_eq_true (q3e)))) rfl rfl ?_
        refine RL.ev (.move rfl) rfl rfl ?_
        refine RL.ev (.loadR (x3.cells) sh29 rfl hb_13.row rfl) rfl rfl ?_
        refine RL.ev (.loadR ((⟨0, 0⟩ : It).cells) sh29 rfl hb_15.row rfl) rfl rfl ?_
        refine RL.ev (.as (v' := .bool true) (.eqS (xs := x3.cells) (ys := (⟨0, 0⟩ : It).cells) fk29 eg29 sh29 rfl rfl rfl rfl rfl) (congrArg Value.bool (by rw [eqL_it_iff]; exact decide_eq_true q3))) rfl rfl ?_
        refine RL.ev (.pick_t rfl rfl) rfl rfl ?_
        refine RL.ev (.assign rfl) rfl rfl ?_
        refine RL.nil (RC.back ?_)
        refine RC.done (rs := [.tmp 8]) (vs := [_]) rfl rfl ⟨rfl, trivial⟩ ?_
        -- end 4
        exact ⟨rfl, S⟩
end Go.Proofs.Ytbfjobmebkhblaa
