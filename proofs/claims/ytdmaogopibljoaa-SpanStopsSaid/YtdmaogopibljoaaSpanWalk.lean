/-
  span.Walk: a row is handed on until it is enough.
-/
import Derived.Test.YtdmaogopibljoaaSpanLaws
set_option linter.unusedVariables false
set_option linter.unusedSimpArgs false
namespace Go.Proofs.Ytdmaogopibljoaa
open Go Go.XL

def stW {σ : Type} (step : σ → It → σ × Bool) (s : Nat × σ) (x : It) : (Nat × σ) × Bool := ((s.1 + 1, (step s.2 x).1), (step s.2 x).2)
/-- how the boxes of Walk stand between two rounds -/
def HWalk {σ : Type} (cnt : σ → Nat) (Hf : σ → (Nat → Prop) → World → Prop) (l : Nat) (rL : Loop) (b8 b5 : Nat) (fv : Value) (s : Nat × σ) (b : Bool) (C : Nat → Prop) (W : World) : Prop :=
  ∃ Cf, (Lp l (recB rL 0 b) W ∧ Has W b8 [.int .i64 (s.1 : Int)] 3 ∧ Has W b5 [fv] 43 ∧ Ft Cf (Hf s.2 Cf) W) ∧ cnt s.2 ≤ s.1 ∧ (¬ Cf l ∧ ¬ Cf b8 ∧ ¬ Cf b5) ∧ ∀ k, C k ↔ (k = l ∨ k = b8 ∨ Cf k) ∨ k = b5
theorem HWalk.ft {σ : Type} {cnt : σ → Nat} {Hf : σ → (Nat → Prop) → World → Prop} {l : Nat} {rL : Loop} {b8 b5 : Nat} {fv : Value} {s : Nat × σ} {b : Bool} {C Cf : Nat → Prop} {W : World} (hC : ∀ k, C k ↔ (k = l ∨ k = b8 ∨ Cf k) ∨ k = b5)
    (h1 : Lp l (recB rL 0 b) W) (h2 : Has W b8 [.int .i64 (s.1 : Int)] 3) (h3 : Has W b5 [fv] 43) (h4 : Ft Cf (Hf s.2 Cf) W) (h5 : cnt s.2 ≤ s.1) (h6 : ¬ Cf l ∧ ¬ Cf b8 ∧ ¬ Cf b5) :
    Ft C (HWalk cnt Hf l rL b8 b5 fv s b C) W := by
  refine ⟨fun k hk => ?_, fun u a => ⟨Cf, ⟨h1.step a (fun hn => hn ((hC _).2 (.inl (.inl rfl)))), h2.step a (fun hn => hn ((hC _).2 (.inl (.inr (.inl rfl))))), h3.step a (fun hn => hn ((hC _).2 (.inr rfl))), h4.step a (fun k hk hn => hn ((hC k).2 (.inl (.inr (.inr hk)))))⟩, h5, h6, hC⟩⟩
  rcases (hC k).1 hk with (rfl | rfl | h) | rfl
  · exact h1.lt
  · exact h2.lt
  · exact h4.lt k h
  · exact h3.lt
theorem c_walk {σ : Type} (f : FuncId) (hf : calleeOK Try.prog f = true) (cs : List Value) (cnt : σ → Nat) (Hf : σ → (Nat → Prop) → World → Prop) (step : σ → It → σ × Bool) (hcs : ∀ s x, cnt (step s x).1 ≤ cnt s + 1) (hF : FT Try.prog f cs It.val It.ok cnt 200 Hf step)
    (A : Ar) (na fa : Option Addr) (nc fc : Nat) (r : Int) (hr : U64 r) (s0 : σ) (hc0 : cnt s0 = 0) (C0 M : Nat → Prop) (w : World) (hA : Ft M (fun u => ArR u na fa A) w) (hMC : ∀ k, M k → ¬ C0 k) (hH : Ft C0 (Hf s0 C0) w) :
    FC Try.prog 12 [arV na fa nc fc A, .int .u64 r, .func (.func f) #[] cs.toArray] w (fun v w' => ∃ C' n e s, v = .tuple #[.int .i64 n, .int .i64 e] ∧ Ft C' (Hf s C') w' ∧ Agr C0 w w' ∧ Up C0 w C' ∧ (¬ isMap A r → e = 1) ∧ ∀ L, isMap A r → IsT A r L → e = 0 ∧ n = ((pushF (stW step) (0, s0) L).1.1 : Nat) ∧ s = (pushF (stW step) (0, s0) L).1.2) := by
  have hCw := hH.lt
  refine FC.introM Try.func12 rfl Try.ntmps12 rfl ?_
  have G : Agr C0 w w := Agr.refl _ _
  refine RC.seq ?_
  refine RC.region rfl ?_
  refine RL.box rfl rfl rfl (fun b_3 w_3 e_3 z_3 hb_3 s_3 => ?_)
  have d_hA_b_3 := hA.neNew e_3
  have d_hH_b_3 := hH.neNew e_3
  have geG_3 := agLe G e_3
  have G := G.trans s_3.agr
  have hA := hA.sub s_3
  have hH := hH.sub s_3
  have hb_3 : Has w_3 b_3 ([.slice na A.nodes.length nc, .slice fa A.free.length fc]) _ := hb_3
  refine RL.box rfl rfl rfl (fun b_5 w_5 e_5 z_5 hb_5 s_5 => ?_)
  have n_3__5 := hb_3.ne e_5
  have d_hA_b_5 := hA.neNew e_5
  have d_hH_b_5 := hH.neNew e_5
  have geG_5 := agLe G e_5
  have G := G.trans s_5.agr
  have hA := hA.sub s_5
  have hH := hH.sub s_5
  have hb_3 := hb_3.sub s_5
  refine RL.ev (.assign rfl) rfl rfl ?_
  refine RL.ev (.assign rfl) rfl rfl ?_
  refine RL.nil (RC.back ?_)
  refine RC.seq ?_
  refine RC.seq ?_
  refine RC.region rfl ?_
  refine RL.ev (.loadR ([.slice na A.nodes.length nc, .slice fa A.free.length fc]) sh28 rfl hb_3.row rfl) rfl rfl ?_
  refine RL.ev (.move rfl) rfl rfl ?_
  refine RL.call rfl ok19 (c_tRight A na fa nc fc r hr w_5 hA.now) rfl rfl ?_
  rintro _ w1 ⟨rfl, s2⟩
  have G := G.trans s2.agr
  have hA := hA.sub s2
  have hH := hH.sub s2
  have hb_3 := hb_3.sub s2
  have hb_5 := hb_5.sub s2
  refine RL.ev (.not rfl) rfl rfl ?_
  refine RL.nil (RC.back ?_)
  refine RC.cond rfl (fun h3 => ?_) (fun h3 => ?_)
  ·
    have hno : ¬ isMap A r := (fun h => by have h2 := h3; rw [isMapB_yes h] at h2; cases h2)
    refine RC.seq ?_
    refine RC.region rfl ?_
    refine RL.ev (.assign rfl) rfl rfl ?_
    refine RL.ev (.assign rfl) rfl rfl ?_
    refine RL.nil (RC.back ?_)
    refine RC.doneM0 (rs := [.tmp 6, .tmp 7]) (vs := [_, _]) rfl rfl ⟨rfl, rfl, trivial⟩ ?_
    -- end 1
    exact ⟨C0, 0, 1, s0, rfl, hH, G, Up.refl _ _, fun _ => rfl, fun L hm _ => absurd hm hno⟩
  ·
    have hmb : isMapB A r = true := (by simpa using h3)
    have hmap : isMap A r := (isMapB_iff A r).1 (by simpa using h3)
    obtain ⟨_, L, hT, hL2⟩ := id hmap
    refine RC.skip (RC.back ?_)
    refine RC.seq ?_
    refine RC.region rfl ?_
    refine RL.alloc ze3 rfl rfl (fun b_8 w_8 e_8 z_8 hb_8 s_8 => ?_)
    have n_3__8 := hb_3.ne e_8
    have n_5__8 := hb_5.ne e_8
    have d_hA_b_8 := hA.neNew e_8
    have d_hH_b_8 := hH.neNew e_8
    have geG_8 := agLe G e_8
    have G := G.trans s_8.agr
    have hA := hA.sub s_8
    have hH := hH.sub s_8
    have hb_3 := hb_3.sub s_8
    have hb_5 := hb_5.sub s_8
    refine RL.store sh3 rfl rfl rfl hb_8 (by exact Nat.le_of_ble_eq_true rfl) (by rfl) rfl (fun w4 z4 hb_8 a4 => ?_)
    have G := agNew G a4 geG_8
    have hA := hA.updD a4 d_hA_b_8
    have hH := hH.updD a4 d_hH_b_8
    have hb_3 := hb_3.upd a4 n_3__8
    have hb_5 := hb_5.upd a4 n_5__8
    refine RL.nil (RC.back ?_)
    refine RC.seq ?_
    refine RC.seq ?_
    refine RC.region rfl ?_
    refine RL.ev (.loadR ([.slice na A.nodes.length nc, .slice fa A.free.length fc]) sh28 rfl hb_3.row rfl) rfl rfl ?_
    refine RL.ev (.move rfl) rfl rfl ?_
    refine RL.call rfl ok20 (c_items A na fa nc fc r w4) rfl rfl ?_
    rintro _ w5 ⟨bA, bR, rfl, hbA, hbR, s6⟩
    have G := G.trans s6.agr
    have hA := hA.sub s6
    have hH := hH.sub s6
    have hb_3 := hb_3.sub s6
    have hb_5 := hb_5.sub s6
    have hb_8 := hb_8.sub s6
    refine RL.nil (RC.back ?_)
    refine RC.range (cs := [_, _]) rfl ok29 ?_
    intro rL W1 hst hpe hps hasg hbd hk1 s1 z1 hL hD
    obtain ⟨b_D, eD⟩ : ∃ D, D = w5.heap.size := ⟨_, rfl⟩
    rw [← eD] at hk1 z1 hL hD ⊢
    obtain ⟨b_l, el⟩ : ∃ l, l = b_D + 1 := ⟨_, rfl⟩
    rw [← el] at hk1 hL ⊢
    have n_D_l : b_D ≠ b_l := by omega
    have geG_D : _ ≤ b_D := Nat.le_trans G.size (by omega)
    have geG_l : _ ≤ b_l := Nat.le_trans G.size (by omega)
    have d_hA_b_D : ∀ k, _ → k ≠ b_D := fun k hk e => by have := (hA.ge k hk).2; omega
    have d_hA_b_l : ∀ k, _ → k ≠ b_l := fun k hk e => by have := (hA.ge k hk).2; omega
    have d_hH_b_D : ∀ k, _ → k ≠ b_D := fun k hk e => by have := (hH.ge k hk).2; omega
    have d_hH_b_l : ∀ k, _ → k ≠ b_l := fun k hk e => by have := (hH.ge k hk).2; omega
    have nb_3_b_D : b_3 ≠ b_D := fun e => by have := hb_3.lt; omega
    have nb_3_b_l : b_3 ≠ b_l := fun e => by have := hb_3.lt; omega
    have nb_5_b_D : b_5 ≠ b_D := fun e => by have := hb_5.lt; omega
    have nb_5_b_l : b_5 ≠ b_l := fun e => by have := hb_5.lt; omega
    have nb_8_b_D : b_8 ≠ b_D := fun e => by have := hb_8.lt; omega
    have nb_8_b_l : b_8 ≠ b_l := fun e => by have := hb_8.lt; omega
    have G := G.trans s1.agr
    have hA := hA.sub s1
    have hH := hH.sub s1
    have hb_3 := hb_3.sub s1
    have hb_5 := hb_5.sub s1
    have hb_8 := hb_8.sub s1
    rw [recB_0 (id := 0) hst hpe] at hL
    have hC0l : ¬ C0 b_l := (fun e => by have := hCw _ e; omega)
    have hC08 : ¬ C0 b_8 := (fun e => by have := hCw _ e; omega)
    have hC05 : ¬ C0 b_5 := (fun e => by have := hCw _ e; omega)
    have hC0D : ¬ C0 b_D := (fun e => by have := hCw _ e; omega)
    have hY : YT Try.prog b_l It.val It.ok (fun s : Nat × σ => s.1) 200 (HWalk cnt Hf b_l rL b_8 b_5 (.func (.func f) #[] cs.toArray)) (stW step) := by
      intro s x C W hx hcn hH
      obtain ⟨n, s⟩ := s
      obtain ⟨Cf, ⟨hL, hb_8, hb_5, hF1⟩, hcn1, hn, hC⟩ := hH.now
      simp only [] at hcn hb_8 hF1 hcn1
      have G : Agr (fun k => k = b_l ∨ k = b_8 ∨ Cf k) W W := Agr.refl _ _
      have dF1 : ∀ k, Cf k → k ≠ b_l := fun k hk e => hn.1 (e ▸ hk)
      have dF2 : ∀ k, Cf k → k ≠ b_8 := fun k hk e => hn.2.1 (e ▸ hk)
      refine FY.intro (m := 25) (F := upd _ (some 17) x.val) [0] hL rfl (by show 1 = rL.params.size; rw [hps]; rfl) (knows1 hps hk1 rfl) ?_
      show RC _ _ rL.assign _ _ _
      rw [hasg]
      refine RC.region rfl ?_
      refine RL.alloc ze42 rfl rfl (fun b_9 w_9 e_9 z_9 hb_9 s_9 => ?_)
      have n_l__9 := hL.ne e_9
      have n_5__9 := hb_5.ne e_9
      have n_8__9 := hb_8.ne e_9
      have d_hF1_b_9 := hF1.neNew e_9
      have hL := hL.sub s_9
      have hb_5 := hb_5.sub s_9
      have hb_8 := hb_8.sub s_9
      have hF1 := hF1.sub s_9
      have geG_9 := agLe G e_9
      have G := G.trans s_9.agr
      refine RL.store sh42 rfl rfl rfl hb_9 (by exact Nat.le_of_ble_eq_true rfl) (by rfl) rfl (fun w7 z7 hb_9 a7 => ?_)
      have hL := hL.upd a7 n_l__9
      have hb_5 := hb_5.upd a7 n_5__9
      have hb_8 := hb_8.upd a7 n_8__9
      have hF1 := hF1.updD a7 d_hF1_b_9
      have G := agNew G a7 geG_9
      have hb_9 : Has w7 b_9 (x.cells) _ := hb_9.now (by kernel_rfl)
      refine RL.nil (RC.begin hL ?_)
      intro w8 a8 z8 hL
      have hb_5 := hb_5.step a8 (fun e => nb_5_b_l e)
      have hb_8 := hb_8.step a8 (fun e => nb_8_b_l e)
      have hF1 := hF1.step a8 (fun k hk e => dF1 k hk e)
      have G := G.trans (a8.mono fun k _ e => .inl e)
      have hb_9 := hb_9.step a8 (fun e => n_l__9.symm e)
      show RC _ _ rL.body _ _ _
      rw [hbd]
      refine RC.block ?_
      refine RC.seq ?_
      refine RC.region rfl ?_
      refine RL.ev (.load1 sh3 rfl (hb_8.cell rfl)) rfl rfl ?_
      refine RL.ev (.as (.bin rfl rfl rfl) (wi64 (y := ((n + 1 : Nat) : Int)) (by show (n : Int) + 1 = _; omega) (by omega))) rfl rfl ?_
      refine RL.store sh3 rfl rfl rfl hb_8 (by exact Nat.le_of_ble_eq_true rfl) (by rfl) rfl (fun w9 z9 hb_8 a9 => ?_)
      have hb_5 := hb_5.upd a9 n_5__8
      have hF1 := hF1.updD a9 dF2
      have G := G.trans (a9.mono fun k _ e => .inr (.inl e))
      have hb_9 := hb_9.upd a9 n_8__9.symm
      have hL := hL.upd a9 nb_8_b_l.symm
      refine RL.nil (RC.back ?_)
      refine RC.seq ?_
      refine RC.region rfl ?_
      refine RL.ev (.load1 sh43 rfl (hb_5.cell rfl)) rfl rfl ?_
      refine RL.ev (.loadR (x.cells) sh42 rfl hb_9.row rfl) rfl rfl ?_
      refine RL.callv rfl rfl (us := []) (cs := cs) hf (hF s x Cf w9 hx (by omega) hF1) rfl rfl ?_
      rintro _ w10 ⟨Cf2, rfl, hF2, agF, upF⟩
      have szW := G.size
      have hn2 : ¬ Cf2 b_l ∧ ¬ Cf2 b_8 ∧ ¬ Cf2 b_5 := ⟨upF.not hL.lt hn.1, upF.not hb_8.lt hn.2.1, upF.not hb_5.lt hn.2.2⟩
      have dF3 : ∀ k, Cf2 k → k ≠ b_l := fun k hk e => hn2.1 (e ▸ hk)
      have hL := hL.step agF hn.1
      have hb_8 := hb_8.step agF hn.2.1
      have hb_5 := hb_5.step agF hn.2.2
      have G := G.trans (agF.mono fun k _ e => .inr (.inr e))
      refine RL.ev (.not rfl) rfl rfl ?_
      refine RL.nil (RC.back ?_)
      refine RC.cond rfl (fun h12 => ?_) (fun h12 => ?_)
      ·
        have q1 : (step s x).2 = false := (by simpa using h12)
        refine RC.exit rfl (RC.endr (j := some (.exit 0)) hL ?_)
        intro w13 a13 z13 hL
        have hb_5 := hb_5.step a13 (fun e => nb_5_b_l e)
        have hb_8 := hb_8.step a13 (fun e => nb_8_b_l e)
        have G := G.trans (a13.mono fun k _ e => .inl e)
        have hF2 := hF2.step a13 (fun k hk e => dF3 k hk e)
        -- round end 1
        rw [show (stW step (n, s) x).2 = false from q1]
        refine ⟨fun k => (k = b_l ∨ k = b_8 ∨ Cf2 k) ∨ k = b_5, rfl, HWalk.ft (s := (n + 1, (step s x).1)) (fun _ => Iff.rfl) hL hb_8 hb_5 hF2 (Nat.le_trans (hcs s x) (Nat.succ_le_succ hcn1)) hn2, G.mono fun k _ e => (hC k).2 (.inl e), fun k hk => ?_⟩
        rcases hk with (e | e | e) | e
        · exact .inl ((hC k).2 (.inl (.inl e)))
        · exact .inl ((hC k).2 (.inl (.inr (.inl e))))
        · rcases upF k e with h | h
          · exact .inl ((hC k).2 (.inl (.inr (.inr h))))
          · exact .inr (Nat.le_trans szW h)
        · exact .inl ((hC k).2 (.inr e))
      ·
        have q1 : (step s x).2 = true := (by simpa using h12)
        refine RC.skip (RC.endr (j := none) hL ?_)
        intro w14 a14 z14 hL
        have hb_5 := hb_5.step a14 (fun e => nb_5_b_l e)
        have hb_8 := hb_8.step a14 (fun e => nb_8_b_l e)
        have G := G.trans (a14.mono fun k _ e => .inl e)
        have hF2 := hF2.step a14 (fun k hk e => dF3 k hk e)
        -- round end 2
        rw [show (stW step (n, s) x).2 = true from q1]
        refine ⟨fun k => (k = b_l ∨ k = b_8 ∨ Cf2 k) ∨ k = b_5, rfl, HWalk.ft (s := (n + 1, (step s x).1)) (fun _ => Iff.rfl) hL hb_8 hb_5 hF2 (Nat.le_trans (hcs s x) (Nat.succ_le_succ hcn1)) hn2, G.mono fun k _ e => (hC k).2 (.inl e), fun k hk => ?_⟩
        rcases hk with (e | e | e) | e
        · exact .inl ((hC k).2 (.inl (.inl e)))
        · exact .inl ((hC k).2 (.inl (.inr (.inl e))))
        · rcases upF k e with h | h
          · exact .inl ((hC k).2 (.inl (.inr (.inr h))))
          · exact .inr (Nat.le_trans szW h)
        · exact .inl ((hC k).2 (.inr e))
    refine FC.mono (c_items1 b_l _ _ _ _ (fun s x => Nat.le_refl _) hY A na fa nc fc r L hT (0, s0) (fun k => (k = b_l ∨ k = b_8 ∨ C0 k) ∨ k = b_5) M bA bR W1 hr (by simpa using hL2) hA (fun k hk e => by rcases e with (e | e | e) | e <;> first | exact d_hA_b_l k hk e | exact d_hA_b_8 k hk e | exact hMC k hk e | exact d_hA_b_5 k hk e) (HWalk.ft (s := (0, s0)) (fun _ => Iff.rfl) hL hb_8 hb_5 hH (by simp only []; omega) ⟨hC0l, hC08, hC05⟩) (hbA.sub s1) (hbR.sub s1)) ?_
    rintro _ W2 ⟨C2, hH2, ag, up⟩
    have hup1 : Up C0 w (fun k => (k = b_l ∨ k = b_8 ∨ C0 k) ∨ k = b_5) := (fun k e => by rcases e with (e | e | e) | e <;> first | exact .inl e | exact .inr (by omega))
    have hup2 : Up C0 w C2 := hup1.trans (up.le G.size)
    have hDC : ¬ ((b_D = b_l ∨ b_D = b_8 ∨ C0 b_D) ∨ b_D = b_5) := (fun e => by rcases e with (e | e | e) | e <;> first | exact hC0D e | omega)
    have hDn : ¬ C2 b_D := up.not hD.lt hDC
    have hD := hD.step ag hDC
    have G := G.up hup1 ag
    obtain ⟨Cf, ⟨hL, hb_8, hb_5, hF1⟩, hcn1, hn, hC⟩ := hH2.now
    have dF1 : ∀ k, Cf k → k ≠ b_l := fun k hk e => hn.1 (e ▸ hk)
    have dF2 : ∀ k, Cf k → k ≠ b_D := fun k hk e => hDn (e ▸ (hC k).2 (.inl (.inr (.inr hk))))
    refine ⟨_, hL, recB_nb, fun W3 a3 z3 => .inl ⟨recB_pe, RC.backM ?_⟩⟩
    have G := agNew G a3 geG_l
    have hF1 := hF1.step a3 (fun k hk e => dF1 k hk e)
    have hb_8 := hb_8.step a3 (fun e => nb_8_b_l e)
    have hD := hD.step a3 (fun e => n_D_l e)
    refine RC.seq ?_
    refine RC.region rfl ?_
    refine RL.ev (.load1 sh3 rfl (hb_8.cell rfl)) rfl rfl ?_
    refine RL.ev (.assign rfl) rfl rfl ?_
    refine RL.ev (.assign rfl) rfl rfl ?_
    refine RL.nil (RC.back ?_)
    refine RC.doneM (rs := [.tmp 6, .tmp 7]) (vs := [_, _]) rfl rfl (fun _ => ⟨rfl, rfl, trivial⟩) hD (fun w15 a15 z15 => ?_)
    have G := agNew G a15 geG_D
    have hF1 := hF1.step a15 (fun k hk e => dF2 k hk e)
    have hb_8 := hb_8.step a15 (fun e => nb_8_b_D e)
    -- end 2
    exact ⟨Cf, _, 0, _, rfl, hF1, G, fun k hk => hup2 k ((hC k).2 (.inl (.inr (.inr hk)))), fun h => absurd hmap h, fun L' hm hl => ⟨rfl, by rw [hl.unique hT], by rw [hl.unique hT]⟩⟩
/-! ### a function that collects until it has so many -/
def stMore (n : Int) (s : List It) (x : It) : List It × Bool := (s ++ [x], decide (((s ++ [x]).length : Int) < n))
def HMore (b12 b4 base : Nat) (n : Int) (rows : List It) (C : Nat → Prop) (W : World) : Prop :=
  ∃ v, (Has W b12 [v] 23 ∧ Has W b4 [.int .i64 n] 3 ∧ Ows base W 42 2 v (rows.map It.cells)) ∧ (∀ k, ob v = some k → k ≠ b12 ∧ k ≠ b4) ∧ ∀ k, C k ↔ (k = b12 ∨ ob v = some k) ∨ k = b4
theorem HMore.ft {b12 b4 base : Nat} {n : Int} {rows : List It} {C : Nat → Prop} {W : World} {v : Value} (hC : ∀ k, C k ↔ (k = b12 ∨ ob v = some k) ∨ k = b4)
    (h1 : Has W b12 [v] 23) (h2 : Has W b4 [.int .i64 n] 3) (h3 : Ows base W 42 2 v (rows.map It.cells)) (hob : ∀ k, ob v = some k → k ≠ b12 ∧ k ≠ b4) : Ft C (HMore b12 b4 base n rows C) W := by
  refine ⟨fun k hk => ?_, fun u a => ⟨v, ⟨h1.step a (fun hn => hn ((hC _).2 (.inl (.inl rfl)))), h2.step a (fun hn => hn ((hC _).2 (.inr rfl))), h3.step a (fun k hk hn => hn ((hC k).2 (.inl (.inr hk))))⟩, hob, hC⟩⟩
  rcases (hC k).1 hk with (rfl | h) | rfl
  · exact h1.lt
  · exact (h3.ge k h).2
  · exact h2.lt
theorem f_more (b12 b4 base : Nat) (hbase : base ≤ b12) (hne : b12 ≠ b4) (n : Int) : FT Try.prog 13 [.pointer (some ⟨b12, 0, none⟩), .pointer (some ⟨b4, 0, none⟩)] It.val It.ok List.length 200 (HMore b12 b4 base n) (stMore n) := by
  intro s x C w hx hcn hH
  obtain ⟨v, ⟨hb_12, hb_4, o⟩, hob, hC⟩ := hH.now
  have dO1 : ∀ k, ob v = some k → k ≠ b12 := fun k hk => (hob k hk).1
  have dO2 : ∀ k, ob v = some k → k ≠ b4 := fun k hk => (hob k hk).2
  have szB : base ≤ w.heap.size := by have := hb_12.lt; omega
  refine FC.intro Try.func13 rfl Try.ntmps13 rfl ?_
  have G : Agr (fun k => k = b12 ∨ ob v = some k) w w := Agr.refl _ _
  have nb12_b4 : b12 ≠ b4 := by exact hne
  refine RC.seq ?_
  refine RC.region rfl ?_
  refine RL.box rfl rfl rfl (fun b_3 w_3 e_3 z_3 hb_3 s_3 => ?_)
  have n12__3 := hb_12.ne e_3
  have n4__3 := hb_4.ne e_3
  have d_o_b_3 := o.neNew e_3
  have geG_3 := agLe G e_3
  have G := G.trans s_3.agr
  have hb_12 := hb_12.sub s_3
  have hb_4 := hb_4.sub s_3
  have o := o.sub s_3
  have szB := Nat.le_trans szB s_3.size
  have hb_3 : Has w_3 b_3 (x.cells) _ := hb_3
  refine RL.ev (.assign rfl) rfl rfl ?_
  refine RL.nil (RC.back ?_)
  refine RC.seq ?_
  refine RC.region rfl ?_
  refine RL.ev (.load1 sh23 rfl (hb_12.cell rfl)) rfl rfl ?_
  refine RL.ev (.loadR (x.cells) sh42 rfl hb_3.row rfl) rfl rfl ?_
  refine RL.buildSlice1 sl23 _ ze42 rfl rfl rfl rfl rfl rfl rfl (fun b_7 w_7 e_7 z_7 hb_7 s_7 => ?_)
  have n12__7 := hb_12.ne e_7
  have n4__7 := hb_4.ne e_7
  have n_3__7 := hb_3.ne e_7
  have d_o_b_7 := o.neNew e_7
  have geG_7 := agLe G e_7
  have G := G.trans s_7.agr
  have hb_12 := hb_12.sub s_7
  have hb_4 := hb_4.sub s_7
  have o := o.sub s_7
  have szB := Nat.le_trans szB s_7.size
  have hb_3 := hb_3.sub s_7
  have szG_8 := G.size
  have ltb12_8 := hb_12.lt
  have ltb4_8 := hb_4.lt
  have ltb_3_8 := hb_3.lt
  have ltb_7_8 := hb_7.lt
  refine RL.append2 (base := base) (rows := s.map It.cells) (news := [_]) sl23 ze42 rfl rfl rfl rfl (.inl o) (Has.slOne hb_7) rfl (by intro r hr; rw [List.mem_singleton] at hr; subst hr; rfl) rfl (by (try simp only [List.length_map, List.length_nil, List.length_append, List.length_cons]); omega) (by (try simp only [List.length_map, List.length_nil, List.length_append, List.length_cons]); omega) (by omega) rfl rfl (fun v_8 w_8 hc_8 ho_8 ag_8 ob_8 => ?_)
  have o8 := ho_8 (.inl (by simp))
  rw [show _ ++ [_] = ((s ++ [x]).map It.cells) from by rw [List.map_append]; rfl] at o8
  have d_o8_b12 := obNe ob_8 dO1 hb_12.lt
  have d_o8_b4 := obNe ob_8 dO2 hb_4.lt
  have d_o8_b_3 := obNe ob_8 d_o_b_3 hb_3.lt
  have G := G.trans (ag_8.mono fun k _ e => .inr e.1)
  have hb_12 := hb_12.step ag_8 (fun e => dO1 _ e.1 rfl)
  have hb_4 := hb_4.step ag_8 (fun e => dO2 _ e.1 rfl)
  have szB := Nat.le_trans szB ag_8.size
  have hb_3 := hb_3.step ag_8 (fun e => d_o_b_3 _ e.1 rfl)
  obtain ⟨a_8, c_8, rfl, k_8⟩ := o8.form
  refine RL.store sh23 rfl rfl rfl hb_12 (by exact Nat.le_of_ble_eq_true rfl) (by rfl) rfl (fun w1 z1 hb_12 a1 => ?_)
  have G := G.trans (a1.mono fun k _ e => .inl e)
  have hb_4 := hb_4.upd a1 nb12_b4.symm
  have szB := Nat.le_trans szB a1.size
  have hb_3 := hb_3.upd a1 n12__3.symm
  have o8 := o8.updD a1 d_o8_b12
  refine RL.nil (RC.back ?_)
  refine RC.seq ?_
  refine RC.region rfl ?_
  refine RL.ev (.load1 sh23 rfl (hb_12.cell rfl)) rfl rfl ?_
  refine RL.ev (.len sl23 rfl) rfl rfl ?_
  refine RL.ev (.load1 sh3 rfl (hb_4.cell rfl)) rfl rfl ?_
  refine RL.ev (.as (v' := .bool (stMore n s x).2) (.bin rfl rfl rfl) (by rw [List.length_map]; rfl)) rfl rfl ?_
  refine RL.ev (.assign rfl) rfl rfl ?_
  refine RL.nil (RC.back ?_)
  refine RC.done (rs := [.tmp 4]) (vs := [_]) rfl rfl ⟨rfl, trivial⟩ ?_
  -- end 1
  refine ⟨fun k => (k = b12 ∨ ob (.slice a_8 ((s ++ [x]).map It.cells).length c_8) = some k) ∨ k = b4, rfl, HMore.ft (fun _ => Iff.rfl) hb_12 hb_4 o8 (fun k hk => ⟨d_o8_b12 k hk, d_o8_b4 k hk⟩), G.mono fun k _ e => (hC k).2 (.inl e), fun k hk => ?_⟩
  rcases hk with (e | e) | e
  · exact .inl ((hC k).2 (.inl (.inl e)))
  · rcases ob_8 with h | ⟨c, h, h3⟩
    · exact .inl ((hC k).2 (.inl (.inr (h ▸ e))))
    · rw [h] at e; cases e; exact .inr (Nat.le_trans szG_8 h3)
  · exact .inl ((hC k).2 (.inr e))
theorem more_cnt (n : Int) (s : List It) (x : It) : (stMore n s x).1.length ≤ s.length + 1 := by simp [stMore]
end Go.Proofs.Ytdmaogopibljoaa
