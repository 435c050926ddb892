/-
  The weaver's methods, walked: merge, cut.
-/
import Derived.Test.YtefakjhfcgjhgaaWeaver
import Derived.Test.YtefakjhfcgjhgaaMix
set_option linter.unusedVariables false
set_option linter.unusedSimpArgs false
namespace Go.Proofs.Ytefakjhfcgjhgaa
open Go Go.XL

/-- what a method of the weaver answers -/
def WoP (bf n : Nat) (s : St) (C : Nat → Prop) (w : World) (J : St → Value → Prop) (v : Value) (w' : World) : Prop :=
  ∃ s' C', Gr n s s' ∧ J s' v ∧ Ft C' (Wo bf s' C') w' ∧ Agr (· = bf) w w' ∧ Up C w C'
set_option maxHeartbeats 1000000 in
theorem c_wmerge (bf : Nat) (A0 : Ar) (hA0 : AOk A0) : ∀ (n : Nat) (a b : Int) (V U P Q : List Int) (s : St) (C : Nat → Prop) (w : World), V.length + U.length ≤ n → n ≤ 1000 → IsR A0 a V P → IsR A0 b U Q → (∀ p ∈ P, ¬ p ∈ Q) → Ext A0 s.1 → Fr A0 s.1 → AOk s.1 → U64 a → U64 b → Ft C (Wo bf s C) w →
    FC Try.prog 38 [.pointer (some ⟨bf, 0, none⟩), .int .u64 a, .int .u64 b] w (WoP bf (V.length + U.length) s C w fun s' v => ∃ r, v = .int .u64 r ∧ U64 r ∧ (s'.2 = 0 → Wv s s' r (V ++ U) (P ++ Q))) := by
  intro n
  induction n with
  | zero =>
    intro a b V U P Q s C w hn _ hV hU hd hE hfr hA hua hub hF
    obtain ⟨hCb, na, fa, nc, fc, M, hbf, hnc, hfc, hA', hMb, hMC⟩ := hF.now
    have ha : a = 0 := Classical.byContradiction fun e => by have := hV.pos e; omega
    obtain ⟨rfl, rfl⟩ := (ha ▸ hV).zero
    refine FC.intro Try.func38 rfl Try.ntmps38 rfl ?_
    have G : Agr (· = bf) w w := Agr.refl _ _
    refine RC.seq ?_
    refine RC.region rfl ?_
    refine RL.ev (.assign rfl) rfl rfl ?_
    refine RL.nil (RC.back ?_)
    refine RC.seq ?_
    refine RC.block ?_
    refine RC.seq ?_
    refine RC.region rfl ?_
    refine RL.ev (.move rfl) rfl rfl ?_
    refine RL.ev (.nilCheck rfl) rfl rfl ?_
    refine RL.ev (.field0 fo84_1 rfl) rfl rfl ?_
    refine RL.ev (.load1 sh31 rfl (hbf.cell rfl)) rfl rfl ?_
    refine RL.ev (.bin rfl rfl rfl) rfl rfl ?_
    refine RL.ev (.move rfl) rfl rfl ?_
    refine RL.split 17 rfl (fun h1 => ?_) (fun h1 => ?_)
    ·
      have hbad : ¬ s.2 = 0 := h1
      refine RL.off rfl rfl ?_
      refine RL.off rfl rfl ?_
      refine RL.ev (.pick_t rfl rfl) rfl rfl ?_
      refine RL.ev (.assign rfl) rfl rfl ?_
      refine RL.nil (RC.back ?_)
      refine RC.cond_t rfl ?_
      refine RC.seq ?_
      refine RC.region rfl ?_
      refine RL.ev (.move rfl) rfl rfl ?_
      refine RL.ev (.assign rfl) rfl rfl ?_
      refine RL.nil (RC.back ?_)
      refine RC.done (rs := [.tmp 6]) (vs := [_]) rfl rfl ⟨rfl, trivial⟩ ?_
      -- end 1
      exact ⟨s, C, (Gr.refl hA).mono (Nat.zero_le _), ⟨b, rfl, hub, fun _ => ⟨Q, hU.ext hE, fun p hp => .inl hp⟩⟩, hF, G, Up.refl _ _⟩
    ·
      have hbad : s.2 = 0 := Decidable.not_not.1 h1
      refine RL.ev (.move rfl) rfl rfl ?_
      refine RL.ev (.bin rfl rfl rfl) rfl rfl ?_
      refine RL.ev (.pick_f rfl rfl) rfl rfl ?_
      refine RL.ev (.assign rfl) rfl rfl ?_
      refine RL.nil (RC.back ?_)
      refine RC.cond_dec rfl (fun h2 => ?_) (fun h2 => ?_)
      ·
        refine RC.seq ?_
        refine RC.region rfl ?_
        refine RL.ev (.move rfl) rfl rfl ?_
        refine RL.ev (.assign rfl) rfl rfl ?_
        refine RL.nil (RC.back ?_)
        refine RC.done (rs := [.tmp 6]) (vs := [_]) rfl rfl ⟨rfl, trivial⟩ ?_
        -- end 2
        exact ⟨s, C, (Gr.refl hA).mono (Nat.zero_le _), ⟨b, rfl, hub, fun _ => ⟨Q, hU.ext hE, fun p hp => .inl hp⟩⟩, hF, G, Up.refl _ _⟩
      ·
        exact absurd ha h2
  | succ n ih =>
    intro a b V U P Q s C w hn hn2 hV hU hd hE hfr hA hua hub hF
    obtain ⟨hCb, na, fa, nc, fc, M, hbf, hnc, hfc, hA', hMb, hMC⟩ := hF.now
    refine FC.intro Try.func38 rfl Try.ntmps38 rfl ?_
    have G : Agr (· = bf) w w := Agr.refl _ _
    refine RC.seq ?_
    refine RC.region rfl ?_
    refine RL.ev (.assign rfl) rfl rfl ?_
    refine RL.nil (RC.back ?_)
    refine RC.seq ?_
    refine RC.block ?_
    refine RC.seq ?_
    refine RC.region rfl ?_
    refine RL.ev (.move rfl) rfl rfl ?_
    refine RL.ev (.nilCheck rfl) rfl rfl ?_
    refine RL.ev (.field0 fo84_1 rfl) rfl rfl ?_
    refine RL.ev (.load1 sh31 rfl (hbf.cell rfl)) rfl rfl ?_
    refine RL.ev (.bin rfl rfl rfl) rfl rfl ?_
    refine RL.ev (.move rfl) rfl rfl ?_
    refine RL.split 17 rfl (fun h1 => ?_) (fun h1 => ?_)
    ·
      have hbad : ¬ s.2 = 0 := h1
      refine RL.off rfl rfl ?_
      refine RL.off rfl rfl ?_
      refine RL.ev (.pick_t rfl rfl) rfl rfl ?_
      refine RL.ev (.assign rfl) rfl rfl ?_
      refine RL.nil (RC.back ?_)
      refine RC.cond_t rfl ?_
      refine RC.seq ?_
      refine RC.region rfl ?_
      refine RL.ev (.move rfl) rfl rfl ?_
      refine RL.ev (.assign rfl) rfl rfl ?_
      refine RL.nil (RC.back ?_)
      refine RC.done (rs := [.tmp 6]) (vs := [_]) rfl rfl ⟨rfl, trivial⟩ ?_
      -- end 1
      exact ⟨s, C, (Gr.refl hA).mono (Nat.zero_le _), ⟨b, rfl, hub, fun h => absurd h hbad⟩, hF, G, Up.refl _ _⟩
    ·
      have hbad : s.2 = 0 := Decidable.not_not.1 h1
      refine RL.ev (.move rfl) rfl rfl ?_
      refine RL.ev (.bin rfl rfl rfl) rfl rfl ?_
      refine RL.ev (.pick_f rfl rfl) rfl rfl ?_
      refine RL.ev (.assign rfl) rfl rfl ?_
      refine RL.nil (RC.back ?_)
      refine RC.cond_dec rfl (fun h2 => ?_) (fun h2 => ?_)
      ·
        have ha : a = 0 := h2
        refine RC.seq ?_
        refine RC.region rfl ?_
        refine RL.ev (.move rfl) rfl rfl ?_
        refine RL.ev (.assign rfl) rfl rfl ?_
        refine RL.nil (RC.back ?_)
        refine RC.done (rs := [.tmp 6]) (vs := [_]) rfl rfl ⟨rfl, trivial⟩ ?_
        -- end 2
        rw [ha] at hV
        obtain ⟨rfl, rfl⟩ := hV.zero
        exact ⟨s, C, (Gr.refl hA).mono (Nat.zero_le _), ⟨b, rfl, hub, fun _ => ⟨Q, hU.ext hE, fun p hp => .inl hp⟩⟩, hF, G, Up.refl _ _⟩
      ·
        have ha : ¬ a = 0 := h2
        refine RC.seq ?_
        refine RC.region rfl ?_
        refine RL.ev (.move rfl) rfl rfl ?_
        refine RL.ev (.bin rfl rfl rfl) rfl rfl ?_
        refine RL.ev (.assign rfl) rfl rfl ?_
        refine RL.nil (RC.back ?_)
        refine RC.cond_dec rfl (fun h3 => ?_) (fun h3 => ?_)
        ·
          have hb : b = 0 := h3
          refine RC.seq ?_
          refine RC.region rfl ?_
          refine RL.ev (.move rfl) rfl rfl ?_
          refine RL.ev (.assign rfl) rfl rfl ?_
          refine RL.nil (RC.back ?_)
          refine RC.done (rs := [.tmp 6]) (vs := [_]) rfl rfl ⟨rfl, trivial⟩ ?_
          -- end 3
          rw [hb] at hU
          obtain ⟨rfl, rfl⟩ := hU.zero
          exact ⟨s, C, (Gr.refl hA).mono (Nat.zero_le _), ⟨a, rfl, hua, fun _ => ⟨P, by rw [List.append_nil]; exact hV.ext hE, fun p hp => .inl (by simp [hp])⟩⟩, hF, G, Up.refl _ _⟩
        ·
          have hb : ¬ b = 0 := h3
          obtain ⟨x, L1, R1, P1, P2, rfl, rfl, hx, hxe, e2, e3, e4⟩ := hV.ne ha
          obtain ⟨y, L2, R2, Q1, Q2, rfl, rfl, hy, hye, f2, f3, f4⟩ := hU.ne hb
          have hx := hE.get hx
          have hy := hE.get hy
          have hgx := getN_yes hx
          have hgy := getN_yes hy
          have hxo := hF.now.nok x (getA_nok hx)
          have hyo := hF.now.nok y (getA_nok hy)
          have hk0 : U64 x.k0 := hxo.kids _ (by simp [Node.kids])
          have hk1 : U64 x.k1 := hxo.kids _ (by simp [Node.kids])
          have hj0 : U64 y.k0 := hyo.kids _ (by simp [Node.kids])
          have hj1 : U64 y.k1 := hyo.kids _ (by simp [Node.kids])
          have hn3 := hn
          simp only [List.length_append, List.length_cons] at hn3
          have hxs : x.s = (L1.length : Int) + R1.length + 1 := congrArg Node.s hxe
          have hys : y.s = (L2.length : Int) + R2.length + 1 := congrArg Node.s hye
          have hpm : pickMay x.s y.s := (by unfold pickMay; omega)
          refine RC.skip (RC.back ?_)
          refine RC.seq ?_
          refine RC.region rfl ?_
          refine RL.ev (.move rfl) rfl rfl ?_
          refine RL.ev (.move rfl) rfl rfl ?_
          refine RL.call rfl ok30 ((hgx ▸ c_wget bf s C a hua w hF)) rfl rfl ?_
          rintro _ w4 ⟨rfl, s5⟩
          have G := G.trans s5.agr
          have hF := hF.sub s5
          refine RL.ev (.move rfl) rfl rfl ?_
          refine RL.ev (.move rfl) rfl rfl ?_
          refine RL.call rfl ok30 ((hgy ▸ c_wget bf s C b hub w4 hF)) rfl rfl ?_
          rintro _ w6 ⟨rfl, s7⟩
          have G := G.trans s7.agr
          have hF := hF.sub s7
          refine RL.alloc ze73 rfl rfl (fun b_7 w_7 e_7 z_7 hb_7 s_7 => ?_)
          have d_hF_b_7 := hF.neNew e_7
          have geG_7 := agLe G e_7
          have G := G.trans s_7.agr
          have hF := hF.sub s_7
          have n7f : b_7 ≠ bf := fun e => d_hF_b_7 bf hCb e.symm
          refine RL.alloc ze73 rfl rfl (fun b_8 w_8 e_8 z_8 hb_8 s_8 => ?_)
          have n_7__8 := hb_7.ne e_8
          have d_hF_b_8 := hF.neNew e_8
          have geG_8 := agLe G e_8
          have G := G.trans s_8.agr
          have hF := hF.sub s_8
          have hb_7 := hb_7.sub s_8
          have n8f : b_8 ≠ bf := fun e => d_hF_b_8 bf hCb e.symm
          refine RL.store sh73 rfl rfl rfl hb_7 (by exact Nat.le_of_ble_eq_true rfl) (by rfl) rfl (fun w8 z8 hb_7 a8 => ?_)
          have G := agNew G a8 geG_7
          have hF := hF.updD a8 d_hF_b_7
          have hb_8 := hb_8.upd a8 n_7__8.symm
          have hb_7 : Has w8 b_7 (x.cells) _ := hb_7.now (by kernel_rfl)
          refine RL.store sh73 rfl rfl rfl hb_8 (by exact Nat.le_of_ble_eq_true rfl) (by rfl) rfl (fun w9 z9 hb_8 a9 => ?_)
          have G := agNew G a9 geG_8
          have hF := hF.updD a9 d_hF_b_8
          have hb_7 := hb_7.upd a9 n_7__8
          have hb_8 : Has w9 b_8 (y.cells) _ := hb_8.now (by kernel_rfl)
          refine RL.nil (RC.back ?_)
          refine RC.seq ?_
          refine RC.seq ?_
          refine RC.region rfl ?_
          refine RL.ev (.field0 fo73_4 rfl) rfl rfl ?_
          refine RL.ev (.load1 sh2 rfl (hb_7.cell rfl)) rfl rfl ?_
          refine RL.ev (.field0 fo73_4 rfl) rfl rfl ?_
          refine RL.ev (.load1 sh2 rfl (hb_8.cell rfl)) rfl rfl ?_
          refine RL.call rfl ok54 (c_pick x.s y.s hpm w9) rfl rfl ?_
          rintro _ w10 ⟨rfl, s11⟩
          have G := G.trans s11.agr
          have hF := hF.sub s11
          have hb_7 := hb_7.sub s11
          have hb_8 := hb_8.sub s11
          refine RL.ev (.move rfl) rfl rfl ?_
          refine RL.ev (.extract rfl rfl) rfl rfl ?_
          refine RL.ev (.extract rfl rfl) rfl rfl ?_
          refine RL.ev (.assign rfl) rfl rfl ?_
          refine RL.ev (.assign rfl) rfl rfl ?_
          refine RL.nil (RC.back ?_)
          refine RC.seq ?_
          refine RC.region rfl ?_
          refine RL.ev (.move rfl) rfl rfl ?_
          refine RL.nil (RC.back ?_)
          refine RC.cond rfl (fun h12 => ?_) (fun h12 => ?_)
          ·
            refine RC.seq ?_
            refine RC.drawD (fun k => k = bf) [11, 12] w10.heap.size 14 rfl rfl mxo (fun w13 s14 => ?_)
            have ltD_hF := fun k hk => (hF.ge k hk).2
            have ltD_b_7 := hb_7.lt
            have ltD_b_8 := hb_8.lt
            have szD := Nat.le_refl w10.heap.size
            have G := G.trans s14.agr
            have hF := hF.sub s14
            have hb_7 := hb_7.sub s14
            have hb_8 := hb_8.sub s14
            have szD := Nat.le_trans szD s14.size
            refine RD.take 0 rfl (by kernel_rfl) (by kernel_rfl) (by kernel_rfl) (fun w' s' => .move rfl) rfl rfl ?_
            refine RD.take 1 rfl (by kernel_rfl) (by kernel_rfl) (by kernel_rfl) (fun w' s' => .field0 fo73_3 rfl) rfl rfl ?_
            refine RD.take 2 rfl (by kernel_rfl) (by kernel_rfl) (by kernel_rfl) (fun w' s' => .load1 sh2 rfl ((hb_7.step s' (fun e => e.elim (fun e => n7f e) (fun e => Nat.not_le.2 ltD_b_7 e))).cell rfl)) rfl rfl ?_
            refine RD.take 3 rfl (by kernel_rfl) (by kernel_rfl) (by kernel_rfl) (fun w' s' => .field0 fo73_5 rfl) rfl rfl ?_
            refine RD.take 4 rfl (by kernel_rfl) (by kernel_rfl) (by kernel_rfl) (fun w' s' => .indexArr ar71 rfl rfl (by omega)) rfl rfl ?_
            refine RD.take 5 rfl (by kernel_rfl) (by kernel_rfl) (by kernel_rfl) (fun w' s' => .load1 sh28 rfl ((hb_7.step s' (fun e => e.elim (fun e => n7f e) (fun e => Nat.not_le.2 ltD_b_7 e))).cell rfl)) rfl rfl ?_
            refine RD.take 6 rfl (by kernel_rfl) (by kernel_rfl) (by kernel_rfl) (fun w' s' => .move rfl) rfl rfl ?_
            refine RD.take 7 rfl (by kernel_rfl) (by kernel_rfl) (by kernel_rfl) (fun w' s' => .field0 fo73_5 rfl) rfl rfl ?_
            refine RD.take 8 rfl (by kernel_rfl) (by kernel_rfl) (by kernel_rfl) (fun w' s' => .indexArr ar71 rfl rfl (by omega)) rfl rfl ?_
            refine RD.take 9 rfl (by kernel_rfl) (by kernel_rfl) (by kernel_rfl) (fun w' s' => .load1 sh28 rfl ((hb_7.step s' (fun e => e.elim (fun e => n7f e) (fun e => Nat.not_le.2 ltD_b_7 e))).cell rfl)) rfl rfl ?_
            refine RD.take 10 rfl (by kernel_rfl) (by kernel_rfl) (by kernel_rfl) (fun w' s' => .move rfl) rfl rfl ?_
            refine RD.all [11] (by kernel_rfl) rfl (RDs.cons rfl ?_ (RDs.nil))
            refine RL.call rfl ok38 (ih x.k1 b R1 (L2 ++ y.v :: R2) P2 (placeR b :: (Q1 ++ Q2)) s C w13 (by simp only [List.length_append, List.length_cons]; omega) (by omega) e3 hU (fun p hp => hd p (by simp [hp])) hE hfr hA hk1 hub hF) rfl rfl ?_
            rintro _ w15 ⟨s1, C1, hg, ⟨r1, rfl, hu1, hi⟩, hF1, ag, up⟩
            have up := up.le G.size
            have G := G.trans ag
            have hb_7 := hb_7.upd ag n7f
            have hb_8 := hb_8.upd ag n8f
            have szD := Nat.le_trans szD ag.size
            have hF := hF1
            refine RD.backW rfl (ag.mono fun k _ e => .inl e) ?_
            refine RD.all [12] (by kernel_rfl) rfl (RDs.cons rfl ?_ (RDs.nil))
            refine RL.call rfl ok32 (c_wmake bf s1 C1 x.v x.k0 r1 hxo.v hk0 hu1 w15 hF) rfl rfl ?_
            rintro _ w17 ⟨s2, r3, C2, rfl, hm, hF2, ag2, up2⟩
            have up2 := up.trans (up2.le G.size)
            have G := G.trans ag2
            have hb_7 := hb_7.upd ag2 n7f
            have hb_8 := hb_8.upd ag2 n8f
            have szD := Nat.le_trans szD ag2.size
            have hF := hF2
            refine RD.backW rfl (ag2.mono fun k _ e => .inl e) ?_
            refine RD.take 13 rfl (by kernel_rfl) (by kernel_rfl) (by kernel_rfl) (fun w' s' => .assign rfl) rfl rfl ?_
            refine RD.done (by kernel_rfl) (RC.back ?_)
            refine RC.done (rs := [.tmp 6]) (vs := [_]) rfl rfl ⟨rfl, trivial⟩ ?_
            -- end 4
            obtain ⟨p1, p2⟩ := merge_l hA0 hE hfr e2 e3 e4 hd (by simp only [List.length_append, List.length_cons]; omega) hg hi hm
            exact ⟨s2, C2, p1, ⟨r3, rfl, hm.u64, p2⟩, hF, G, up2⟩
          ·
            refine RC.skip (RC.back ?_)
            refine RC.seq ?_
            refine RC.drawD (fun k => k = bf) [8, 12] w10.heap.size 14 rfl rfl mxo (fun w19 s20 => ?_)
            have ltD_hF := fun k hk => (hF.ge k hk).2
            have ltD_b_7 := hb_7.lt
            have ltD_b_8 := hb_8.lt
            have szD := Nat.le_refl w10.heap.size
            have G := G.trans s20.agr
            have hF := hF.sub s20
            have hb_7 := hb_7.sub s20
            have hb_8 := hb_8.sub s20
            have szD := Nat.le_trans szD s20.size
            refine RD.take 0 rfl (by kernel_rfl) (by kernel_rfl) (by kernel_rfl) (fun w' s' => .move rfl) rfl rfl ?_
            refine RD.take 1 rfl (by kernel_rfl) (by kernel_rfl) (by kernel_rfl) (fun w' s' => .field0 fo73_3 rfl) rfl rfl ?_
            refine RD.take 2 rfl (by kernel_rfl) (by kernel_rfl) (by kernel_rfl) (fun w' s' => .load1 sh2 rfl ((hb_8.step s' (fun e => e.elim (fun e => n8f e) (fun e => Nat.not_le.2 ltD_b_8 e))).cell rfl)) rfl rfl ?_
            refine RD.take 3 rfl (by kernel_rfl) (by kernel_rfl) (by kernel_rfl) (fun w' s' => .move rfl) rfl rfl ?_
            refine RD.take 4 rfl (by kernel_rfl) (by kernel_rfl) (by kernel_rfl) (fun w' s' => .move rfl) rfl rfl ?_
            refine RD.take 5 rfl (by kernel_rfl) (by kernel_rfl) (by kernel_rfl) (fun w' s' => .field0 fo73_5 rfl) rfl rfl ?_
            refine RD.take 6 rfl (by kernel_rfl) (by kernel_rfl) (by kernel_rfl) (fun w' s' => .indexArr ar71 rfl rfl (by omega)) rfl rfl ?_
            refine RD.take 7 rfl (by kernel_rfl) (by kernel_rfl) (by kernel_rfl) (fun w' s' => .load1 sh28 rfl ((hb_8.step s' (fun e => e.elim (fun e => n8f e) (fun e => Nat.not_le.2 ltD_b_8 e))).cell rfl)) rfl rfl ?_
            refine RD.take 9 rfl (by kernel_rfl) (by kernel_rfl) (by kernel_rfl) (fun w' s' => .field0 fo73_5 rfl) rfl rfl ?_
            refine RD.take 10 rfl (by kernel_rfl) (by kernel_rfl) (by kernel_rfl) (fun w' s' => .indexArr ar71 rfl rfl (by omega)) rfl rfl ?_
            refine RD.take 11 rfl (by kernel_rfl) (by kernel_rfl) (by kernel_rfl) (fun w' s' => .load1 sh28 rfl ((hb_8.step s' (fun e => e.elim (fun e => n8f e) (fun e => Nat.not_le.2 ltD_b_8 e))).cell rfl)) rfl rfl ?_
            refine RD.all [8] (by kernel_rfl) rfl (RDs.cons rfl ?_ (RDs.nil))
            refine RL.call rfl ok38 (ih a y.k0 (L1 ++ x.v :: R1) L2 (placeR a :: (P1 ++ P2)) Q1 s C w19 (by simp only [List.length_append, List.length_cons]; omega) (by omega) hV f2 (fun p hp h => hd p hp (by simp [h])) hE hfr hA hua hj0 hF) rfl rfl ?_
            rintro _ w21 ⟨s1, C1, hg, ⟨r1, rfl, hu1, hi⟩, hF1, ag, up⟩
            have up := up.le G.size
            have G := G.trans ag
            have hb_7 := hb_7.upd ag n7f
            have hb_8 := hb_8.upd ag n8f
            have szD := Nat.le_trans szD ag.size
            have hF := hF1
            refine RD.backW rfl (ag.mono fun k _ e => .inl e) ?_
            refine RD.all [12] (by kernel_rfl) rfl (RDs.cons rfl ?_ (RDs.nil))
            refine RL.call rfl ok32 (c_wmake bf s1 C1 y.v r1 y.k1 hyo.v hu1 hj1 w21 hF) rfl rfl ?_
            rintro _ w23 ⟨s2, r3, C2, rfl, hm, hF2, ag2, up2⟩
            have up2 := up.trans (up2.le G.size)
            have G := G.trans ag2
            have hb_7 := hb_7.upd ag2 n7f
            have hb_8 := hb_8.upd ag2 n8f
            have szD := Nat.le_trans szD ag2.size
            have hF := hF2
            refine RD.backW rfl (ag2.mono fun k _ e => .inl e) ?_
            refine RD.take 13 rfl (by kernel_rfl) (by kernel_rfl) (by kernel_rfl) (fun w' s' => .assign rfl) rfl rfl ?_
            refine RD.done (by kernel_rfl) (RC.back ?_)
            refine RC.done (rs := [.tmp 6]) (vs := [_]) rfl rfl ⟨rfl, trivial⟩ ?_
            -- end 5
            obtain ⟨p1, p2⟩ := merge_r hA0 hE hfr f2 f3 f4 hd (by simp only [List.length_append, List.length_cons]; omega) hg hi hm
            exact ⟨s2, C2, p1, ⟨r3, rfl, hm.u64, p2⟩, hF, G, up2⟩
theorem c_wcut (bf : Nat) (A0 : Ar) (hA0 : AOk A0) {r : Int} {V P : List Int} (hV : IsR A0 r V P) : ∀ (n : Nat) (s : St) (C : Nat → Prop) (w : World), n ≤ V.length → V.length ≤ 1000 → Ext A0 s.1 → Fr A0 s.1 → AOk s.1 → U64 r → Ft C (Wo bf s C) w →
    FC Try.prog 35 [.pointer (some ⟨bf, 0, none⟩), .int .u64 r, .int .i64 (n : Int)] w (WoP bf V.length s C w fun s' v => ∃ r1 r2, v = .tuple #[.int .u64 r1, .int .u64 r2] ∧ U64 r1 ∧ U64 r2 ∧ (s'.2 = 0 → Wv2 s s' r1 r2 (V.take n) (V.drop n) P)) := by
  induction hV with
  | nil =>
    intro n s C w hn hl hE hfr hA hr hF
    obtain rfl : n = 0 := by simpa using hn
    refine FC.intro Try.func35 rfl Try.ntmps35 rfl ?_
    have G : Agr (· = bf) w w := Agr.refl _ _
    refine RC.seq ?_
    refine RC.region rfl ?_
    refine RL.ev (.assign rfl) rfl rfl ?_
    refine RL.ev (.assign rfl) rfl rfl ?_
    refine RL.nil (RC.back ?_)
    refine RC.seq ?_
    refine RC.seq ?_
    refine RC.region rfl ?_
    refine RL.ev (.move rfl) rfl rfl ?_
    refine RL.ev (.bin rfl rfl rfl) rfl rfl ?_
    refine RL.ev (.move rfl) rfl rfl ?_
    refine RL.split 16 rfl (fun h1 => ?_) (fun h1 => ?_)
    ·
      refine RL.off rfl rfl ?_
      refine RL.off rfl rfl ?_
      refine RL.off rfl rfl ?_
      refine RL.off rfl rfl ?_
      refine RL.off rfl rfl ?_
      refine RL.ev (.pick_t rfl rfl) rfl rfl ?_
      refine RL.nil (RC.back ?_)
      refine RC.cond_t rfl ?_
      refine RC.seq ?_
      refine RC.region rfl ?_
      refine RL.ev (.assign rfl) rfl rfl ?_
      refine RL.ev (.assign rfl) rfl rfl ?_
      refine RL.nil (RC.back ?_)
      refine RC.done (rs := [.tmp 6, .tmp 7]) (vs := [_, _]) rfl rfl ⟨rfl, rfl, trivial⟩ ?_
      -- end 1
      exact ⟨s, C, Gr.refl hA, ⟨0, 0, rfl, zu0, zu0, fun _ => ⟨[], [], .nil, .nil, by simp, by simp⟩⟩, hF, G, Up.refl _ _⟩
    ·
      exact absurd rfl h1
  | @node r g v a b L R P Q t1 t2 t3 t4 ih1 ih2 =>
    intro n s C w hn hl hE hfr hA hr hF
    obtain ⟨x, hx, hxv, hxa, hxb⟩ : ∃ x, getA A0 r = some x ∧ x.v = v ∧ x.k0 = a ∧ x.k1 = b := ⟨_, t1, rfl, rfl, rfl⟩
    have hx := hE.get hx
    have hgx := getN_yes hx
    obtain ⟨hCb, na, fa, nc, fc, M, hbf, hnc, hfc, hA', hMb, hMC⟩ := hF.now
    have hxo := hF.now.nok x (getA_nok hx)
    have hr0 : ¬ r = 0 := fun e => by rw [e, getA_00] at hx; cases hx
    have hk0 : U64 x.k0 := hxo.kids _ (by simp [Node.kids])
    have hk1 : U64 x.k1 := hxo.kids _ (by simp [Node.kids])
    clear t1
    have hl2 := hl
    have hn2 := hn
    rw [List.length_append, List.length_cons] at hl2 hn2
    subst hxv hxa hxb
    have hsz := (t2.ext hE).size
    refine FC.intro Try.func35 rfl Try.ntmps35 rfl ?_
    have G : Agr (· = bf) w w := Agr.refl _ _
    refine RC.seq ?_
    refine RC.region rfl ?_
    refine RL.ev (.assign rfl) rfl rfl ?_
    refine RL.ev (.assign rfl) rfl rfl ?_
    refine RL.nil (RC.back ?_)
    refine RC.seq ?_
    refine RC.seq ?_
    refine RC.region rfl ?_
    refine RL.ev (.move rfl) rfl rfl ?_
    refine RL.ev (.bin rfl rfl rfl) rfl rfl ?_
    refine RL.ev (.move rfl) rfl rfl ?_
    refine RL.split 16 rfl (fun h1 => ?_) (fun h1 => ?_)
    ·
      exact absurd h1 hr0
    ·
      refine RL.ev (.move rfl) rfl rfl ?_
      refine RL.ev (.nilCheck rfl) rfl rfl ?_
      refine RL.ev (.field0 fo84_1 rfl) rfl rfl ?_
      refine RL.ev (.load1 sh31 rfl (hbf.cell rfl)) rfl rfl ?_
      refine RL.ev (.bin rfl rfl rfl) rfl rfl ?_
      refine RL.ev (.pick_f rfl rfl) rfl rfl ?_
      refine RL.nil (RC.back ?_)
      refine RC.cond_dec rfl (fun h2 => ?_) (fun h2 => ?_)
      ·
        have hbad : ¬ s.2 = 0 := h2
        refine RC.seq ?_
        refine RC.region rfl ?_
        refine RL.ev (.assign rfl) rfl rfl ?_
        refine RL.ev (.assign rfl) rfl rfl ?_
        refine RL.nil (RC.back ?_)
        refine RC.done (rs := [.tmp 6, .tmp 7]) (vs := [_, _]) rfl rfl ⟨rfl, rfl, trivial⟩ ?_
        -- end 1
        exact ⟨s, C, (Gr.refl hA).mono (Nat.zero_le _), ⟨0, 0, rfl, zu0, zu0, fun h => absurd h hbad⟩, hF, G, Up.refl _ _⟩
      ·
        have hbad : s.2 = 0 := Decidable.not_not.1 h2
        refine RC.skip (RC.back ?_)
        refine RC.seq ?_
        refine RC.region rfl ?_
        refine RL.ev (.move rfl) rfl rfl ?_
        refine RL.ev (.move rfl) rfl rfl ?_
        refine RL.call rfl ok30 ((hgx ▸ c_wget bf s C r hr w hF)) rfl rfl ?_
        rintro _ w3 ⟨rfl, s4⟩
        have G := G.trans s4.agr
        have hF := hF.sub s4
        refine RL.alloc ze73 rfl rfl (fun b_8 w_8 e_8 z_8 hb_8 s_8 => ?_)
        have d_hF_b_8 := hF.neNew e_8
        have geG_8 := agLe G e_8
        have G := G.trans s_8.agr
        have hF := hF.sub s_8
        have n8f : b_8 ≠ bf := fun e => d_hF_b_8 bf hCb e.symm
        refine RL.store sh73 rfl rfl rfl hb_8 (by exact Nat.le_of_ble_eq_true rfl) (by rfl) rfl (fun w5 z5 hb_8 a5 => ?_)
        have G := agNew G a5 geG_8
        have hF := hF.updD a5 d_hF_b_8
        have hb_8 : Has w5 b_8 (x.cells) _ := hb_8.now (by kernel_rfl)
        refine RL.nil (RC.back ?_)
        refine RC.seq ?_
        refine RC.region rfl ?_
        refine RL.ev (.move rfl) rfl rfl ?_
        refine RL.ev (.field0 fo73_5 rfl) rfl rfl ?_
        refine RL.ev (.indexArr ar71 rfl rfl (by omega)) rfl rfl ?_
        refine RL.ev (.load1 sh28 rfl (hb_8.cell rfl)) rfl rfl ?_
        refine RL.call rfl ok30 (c_wget bf s C x.k0 hk0 w5 hF) rfl rfl ?_
        rintro _ w6 ⟨rfl, s7⟩
        have G := G.trans s7.agr
        have hF := hF.sub s7
        have hb_8 := hb_8.sub s7
        refine RL.ev (.as (v' := .int .i64 (L.length : Int)) (.fieldV Try.underlying73 rfl sh2 rfl rfl) (by show Value.int .i64 (getN s.1 x.k0).s = _; rw [getN_s, hsz])) rfl rfl ?_
        refine RL.ev (.assign rfl) rfl rfl ?_
        refine RL.nil (RC.back ?_)
        refine RC.seq ?_
        refine RC.seq ?_
        refine RC.region rfl ?_
        refine RL.ev (.move rfl) rfl rfl ?_
        refine RL.ev (.move rfl) rfl rfl ?_
        refine RL.ev (.bin rfl rfl rfl) rfl rfl ?_
        refine RL.nil (RC.back ?_)
        refine RC.cond_dec rfl (fun h8 => ?_) (fun h8 => ?_)
        ·
          have hle : n ≤ L.length := (by omega)
          refine RC.seq ?_
          refine RC.region rfl ?_
          refine RL.ev (.move rfl) rfl rfl ?_
          refine RL.ev (.field0 fo73_5 rfl) rfl rfl ?_
          refine RL.ev (.indexArr ar71 rfl rfl (by omega)) rfl rfl ?_
          refine RL.ev (.load1 sh28 rfl (hb_8.cell rfl)) rfl rfl ?_
          refine RL.ev (.move rfl) rfl rfl ?_
          refine RL.call rfl ok35 (ih1 n s C w6 hle (by omega) hE hfr hA hk0 hF) rfl rfl ?_
          rintro _ w9 ⟨s1, C1, hg, ⟨r1, r2, rfl, hu1, hu2, hi⟩, hF1, ag, up⟩
          have up := up.le G.size
          have G := G.trans ag
          have hb_8 := hb_8.upd ag n8f
          have hF := hF1
          refine RL.ev (.move rfl) rfl rfl ?_
          refine RL.ev (.extract rfl rfl) rfl rfl ?_
          refine RL.ev (.extract rfl rfl) rfl rfl ?_
          refine RL.ev (.assign rfl) rfl rfl ?_
          refine RL.ev (.assign rfl) rfl rfl ?_
          refine RL.nil (RC.back ?_)
          refine RC.seq ?_
          refine RC.region rfl ?_
          refine RL.ev (.move rfl) rfl rfl ?_
          refine RL.ev (.move rfl) rfl rfl ?_
          refine RL.ev (.field0 fo73_3 rfl) rfl rfl ?_
          refine RL.ev (.load1 sh2 rfl (hb_8.cell rfl)) rfl rfl ?_
          refine RL.ev (.move rfl) rfl rfl ?_
          refine RL.ev (.field0 fo73_5 rfl) rfl rfl ?_
          refine RL.ev (.indexArr ar71 rfl rfl (by omega)) rfl rfl ?_
          refine RL.ev (.load1 sh28 rfl (hb_8.cell rfl)) rfl rfl ?_
          refine RL.call rfl ok32 (c_wmake bf s1 C1 x.v r2 x.k1 hxo.v hu2 hk1 w9 hF) rfl rfl ?_
          rintro _ w11 ⟨s2, r3, C2, rfl, hm, hF2, ag2, up2⟩
          have up2 := up.trans (up2.le G.size)
          have G := G.trans ag2
          have hb_8 := hb_8.upd ag2 n8f
          have hF := hF2
          refine RL.ev (.assign rfl) rfl rfl ?_
          refine RL.ev (.assign rfl) rfl rfl ?_
          refine RL.nil (RC.back ?_)
          refine RC.done (rs := [.tmp 6, .tmp 7]) (vs := [_, _]) rfl rfl ⟨rfl, rfl, trivial⟩ ?_
          -- end 2
          obtain ⟨p1, p2⟩ := cut_l hA0 hE hfr t2 t3 t4 (Nat.le_trans hl (by decide)) hle hg hi hm
          exact ⟨s2, C2, p1, ⟨r1, r3, rfl, hu1, hm.u64, p2⟩, hF, G, up2⟩
        ·
          have hgt : ¬ n ≤ L.length := (by omega)
          obtain ⟨m, hm0⟩ : ∃ m, n = L.length + 1 + m := ⟨n - (L.length + 1), by omega⟩
          refine RC.skip (RC.back ?_)
          refine RC.seq ?_
          refine RC.region rfl ?_
          refine RL.ev (.move rfl) rfl rfl ?_
          refine RL.ev (.field0 fo73_5 rfl) rfl rfl ?_
          refine RL.ev (.indexArr ar71 rfl rfl (by omega)) rfl rfl ?_
          refine RL.ev (.load1 sh28 rfl (hb_8.cell rfl)) rfl rfl ?_
          refine RL.ev (.move rfl) rfl rfl ?_
          refine RL.ev (.move rfl) rfl rfl ?_
          refine RL.ev (.as (.bin rfl rfl rfl) (wi64 (y := (n : Int) - L.length) (by rfl) (by omega))) rfl rfl ?_
          refine RL.ev (.as (.bin rfl rfl rfl) (wi64 (y := (m : Int)) (by omega) (by omega))) rfl rfl ?_
          refine RL.call rfl ok35 (ih2 m s C w6 (by omega) (by omega) hE hfr hA hk1 hF) rfl rfl ?_
          rintro _ w13 ⟨s1, C1, hg, ⟨r1, r2, rfl, hu1, hu2, hi⟩, hF1, ag, up⟩
          have up := up.le G.size
          have G := G.trans ag
          have hb_8 := hb_8.upd ag n8f
          have hF := hF1
          refine RL.ev (.move rfl) rfl rfl ?_
          refine RL.ev (.extract rfl rfl) rfl rfl ?_
          refine RL.ev (.extract rfl rfl) rfl rfl ?_
          refine RL.ev (.assign rfl) rfl rfl ?_
          refine RL.ev (.assign rfl) rfl rfl ?_
          refine RL.nil (RC.back ?_)
          refine RC.seq ?_
          refine RC.region rfl ?_
          refine RL.ev (.move rfl) rfl rfl ?_
          refine RL.ev (.field0 fo73_3 rfl) rfl rfl ?_
          refine RL.ev (.load1 sh2 rfl (hb_8.cell rfl)) rfl rfl ?_
          refine RL.ev (.field0 fo73_5 rfl) rfl rfl ?_
          refine RL.ev (.indexArr ar71 rfl rfl (by omega)) rfl rfl ?_
          refine RL.ev (.load1 sh28 rfl (hb_8.cell rfl)) rfl rfl ?_
          refine RL.ev (.move rfl) rfl rfl ?_
          refine RL.call rfl ok32 (c_wmake bf s1 C1 x.v x.k0 r1 hxo.v hk0 hu1 w13 hF) rfl rfl ?_
          rintro _ w15 ⟨s2, r3, C2, rfl, hm, hF2, ag2, up2⟩
          have up2 := up.trans (up2.le G.size)
          have G := G.trans ag2
          have hb_8 := hb_8.upd ag2 n8f
          have hF := hF2
          refine RL.ev (.move rfl) rfl rfl ?_
          refine RL.ev (.assign rfl) rfl rfl ?_
          refine RL.ev (.assign rfl) rfl rfl ?_
          refine RL.nil (RC.back ?_)
          refine RC.done (rs := [.tmp 6, .tmp 7]) (vs := [_, _]) rfl rfl ⟨rfl, rfl, trivial⟩ ?_
          -- end 3
          obtain ⟨p1, p2⟩ := cut_r hA0 hE hfr t2 t3 t4 (Nat.le_trans hl (by decide)) hm0 hg hi hm
          exact ⟨s2, C2, p1, ⟨r3, r2, rfl, hm.u64, hu2, p2⟩, hF, G, up2⟩
end Go.Proofs.Ytefakjhfcgjhgaa
