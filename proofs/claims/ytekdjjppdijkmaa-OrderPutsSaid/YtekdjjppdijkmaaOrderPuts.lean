/-
  The statement OrderPuts.
-/
import Derived.Test.YtekdjjppdijkmaaOrderLaws
set_option linter.unusedVariables false
set_option linter.unusedSimpArgs false
namespace Go.Proofs.Ytekdjjppdijkmaa
open Go Go.XL

def idN (i : Int) : Int := i
def mod60 (x : Int) : Int := x % 60
theorem law_OrderPuts (w : World) (l : List Int) (pa : Option Addr) (pc : Nat) (hlc : l.length ≤ pc) (hcm : pc ≤ maxLen) (hs : Sl w pa 1 (l.map fun x => [i6 x])) (hli : ∀ x ∈ l, I64 x) (key : Int) (wk : (Lit.int .i64 key).wf = true) (other : Int) (wo : (Lit.int .i64 other).wf = true) :
    FC Try.prog 3 [.slice pa l.length pc, .int .i64 key, .int .i64 other] w (Val (.bool true) w) := by
  have hk := wfI wk
  have hll : l.length ≤ 9223372036854775807 := Nat.le_trans hlc (Nat.le_trans hcm (by decide))
  have ho := wfI wo
  have nmk := norm_mod key 60 (by decide)
  obtain ⟨kk, hkk⟩ : ∃ kk, kk = key % 60 := ⟨_, rfl⟩
  have hkr : 0 ≤ kk ∧ kk < 60 := by omega
  refine FC.intro Try.func3 rfl Try.ntmps3 rfl ?_
  have S := Sub.refl w
  refine RC.seq ?_
  refine RC.region rfl ?_
  refine RL.ev (.assign rfl) rfl rfl ?_
  refine RL.nil (RC.back ?_)
  refine RC.seq ?_
  refine RC.region rfl ?_
  refine RL.ev (.assign rfl) rfl rfl ?_
  refine RL.nil (RC.back ?_)
  refine RC.seq ?_
  refine RC.seq ?_
  refine RC.region rfl ?_
  refine RL.ev (.move rfl) rfl rfl ?_
  refine RL.ev (.len sl22 rfl) rfl rfl ?_
  refine RL.ev (.move rfl) rfl rfl ?_
  refine RL.nil (RC.back ?_)
  refine RC.block ?_
  refine RC.loop (α := Nat × Option Addr × Nat × Nat) (fun x => [(1, .int .i64 key), (2, .int .i64 other), (7, .slice x.2.1 x.2.2.1 x.2.2.2), (23, .slice pa l.length pc), (24, .int .i64 (l.length : Int)), (25, .int .i64 (x.1 : Int))]) (fun x w1 => (x.1 ≤ l.length ∧ x.2.2.1 = (rowN mod60 idN 20 l x.1).length ∧ (rowN mod60 idN 20 l x.1).length ≤ x.2.2.2) ∧ Sl w1 x.2.1 2 ((rowN mod60 idN 20 l x.1).map It.cells) ∧ Sub w w1) (fun x => l.length - x.1) (0, none, 0, 0) (keep_of (by repeat (first | exact trivial | refine And.intro rfl ?_))) (⟨⟨Nat.zero_le _, rfl, Nat.zero_le _⟩, Sl.nil _ _ _, S⟩) (fun x w1 hJ => ?_)
  obtain ⟨i, ra, rm, rc⟩ := x; obtain ⟨⟨hi, hm, hc⟩, hr, S⟩ := hJ; simp only [] at hi hm hc hr; have hrl := rowN_len mod60 idN 20 l i
  refine RC.seq ?_
  refine RC.region rfl ?_
  refine RL.ev (.bin rfl rfl rfl) rfl rfl ?_
  refine RL.nil (RC.back ?_)
  refine RC.seq ?_
  refine RC.cond_dec rfl (fun h2 => ?_) (fun h2 => ?_)
  ·
    obtain ⟨x, hx⟩ := getSome (l := l) (i := i) (by omega)
    have hxi : -9223372036854775808 ≤ x ∧ x ≤ 9223372036854775807 := hli x (List.mem_of_getElem? hx)
    have nmx := norm_mod x 60 (by decide)
    refine RC.skip (RC.back ?_)
    refine RC.seq ?_
    refine RC.block ?_
    refine RC.seq ?_
    refine RC.region rfl ?_
    refine RL.ev (.move rfl) rfl rfl ?_
    refine RL.ev (.indexS sl22 rfl rfl (by omega) (hs.is (i := 0) (by simp only [List.length_map]; omega))) rfl rfl ?_
    refine RL.ev (.load1 sh2 rfl ((hs.sub S).one (enc := i6) (i := i) hx)) rfl rfl ?_
    refine RL.ev (.assign rfl) rfl rfl ?_
    refine RL.ev (.assign rfl) rfl rfl ?_
    refine RL.nil (RC.back ?_)
    refine RC.seq ?_
    refine RC.region rfl ?_
    refine RL.ev (.move rfl) rfl rfl ?_
    refine RL.ev (.bin rfl rfl rfl) rfl rfl ?_
    refine RL.nil (RC.back ?_)
    refine RC.cond_dec rfl (fun h3 => ?_) (fun h3 => ?_)
    ·
      have hlt : i < 20 := (by omega)
      refine RC.region rfl ?_
      refine RL.ev (.move rfl) rfl rfl ?_
      refine RL.ev (.move rfl) rfl rfl ?_
      refine RL.ev (.rem rfl rfl (by decide)) rfl rfl ?_
      refine RL.ev (.as (.bin rfl rfl rfl) (wi64 (y := x.tmod 60 + 60) (by rfl) (by omega))) rfl rfl ?_
      refine RL.ev (.as (v' := .int .i64 (x % 60)) (.rem rfl rfl (by decide)) (by rw [nmx.2.2])) rfl rfl ?_
      refine RL.ev (.move rfl) rfl rfl ?_
      refine RL.call rfl ok13 (c_refPut (rowN mod60 idN 20 l i) ra rc rm hm (x % 60) (i : Int) w1 (hr) (by omega)) rfl rfl ?_
      rintro vr w4 ⟨a1, c1, hvr, o1, s5⟩
      have S := S.trans s5
      rw [← show rowN mod60 idN 20 l (i + 1) = putR (rowN mod60 idN 20 l i) (x % 60) (i : Int) from rowN_put hx hlt] at hvr o1
      subst hvr
      have hc1 : (rowN mod60 idN 20 l (i + 1)).length ≤ c1 := (by obtain ⟨_, c', e, h⟩ := o1.form; cases e; rw [List.length_map] at h; exact h)
      refine RL.ev (.assign rfl) rfl rfl ?_
      refine RL.nil (RC.back ?_)
      refine RC.region rfl ?_
      refine RL.ev (.as (.bin rfl rfl rfl) (wi64 (y := ((i + 1 : Nat) : Int)) (by omega) (by omega))) rfl rfl ?_
      refine RL.ev (.move rfl) rfl rfl ?_
      exact RL.nil (fun a ka => ⟨(i + 1, a1, _, c1), ⟨⟨by omega, List.length_map _, hc1⟩, o1.sl.1, S⟩, by omega, ka.keep (keep_of (by repeat (first | exact trivial | refine And.intro rfl ?_)))⟩)
    ·
      have hge : ¬ i < 20 := (by omega)
      rw [← rowN_stay hge] at hm hc hr
      refine RC.skip (RC.back ?_)
      refine RC.region rfl ?_
      refine RL.ev (.as (.bin rfl rfl rfl) (wi64 (y := ((i + 1 : Nat) : Int)) (by omega) (by omega))) rfl rfl ?_
      refine RL.ev (.move rfl) rfl rfl ?_
      exact RL.nil (fun a ka => ⟨(i + 1, ra, rm, rc), ⟨⟨by omega, hm, hc⟩, hr, S⟩, by omega, ka.keep (keep_of (by repeat (first | exact trivial | refine And.intro rfl ?_)))⟩)
  ·
    obtain rfl : i = l.length := (by omega)
    have hRs := rowN_srt mod60 idN 20 l l.length
    have hRok := rowN_all (f := mod60) (g := idN) (most := 20) (l := l) (P := It.ok) (fun x hx i hi => ⟨by unfold I64; show _ ≤ x % 60 ∧ x % 60 ≤ _; omega, by unfold I64; show _ ≤ (i : Int) ∧ (i : Int) ≤ _; omega⟩) l.length (Nat.le_refl _)
    obtain ⟨R, hR⟩ : ∃ R, rowN mod60 idN 20 l l.length = R := ⟨_, rfl⟩
    rw [hR] at hm hc hr hrl hRs hRok
    have hR20 := hrl.1
    obtain ⟨W0, S0, hr⟩ : ∃ W, Sub W w1 ∧ Sl W ra 2 (R.map It.cells) := ⟨_, Sub.refl _, hr⟩
    refine RC.exit rfl (RC.back ?_)
    refine RC.seq ?_
    refine RC.region rfl ?_
    refine RL.ev (.move rfl) rfl rfl ?_
    refine RL.ev (.rem rfl rfl (by decide)) rfl rfl ?_
    refine RL.ev (.as (.bin rfl rfl rfl) (wi64 (y := key.tmod 60 + 60) (by rfl) (by omega))) rfl rfl ?_
    refine RL.ev (.as (v' := .int .i64 kk) (.rem rfl rfl (by decide)) (by rw [nmk.2.2, hkk])) rfl rfl ?_
    refine RL.ev (.assign rfl) rfl rfl ?_
    refine RL.nil (RC.back ?_)
    refine RC.seq ?_
    refine RC.region rfl ?_
    refine RL.ev (.move rfl) rfl rfl ?_
    refine RL.call rfl ok14 (c_build 300 R ra rc rm hm hc hRs hRok (by omega) (by decide) (by decide) w1 (hr.sub S0)) rfl rfl ?_
    rintro _ w6 ⟨na1, fa1, nc1, fc1, rfl, hn1, hf1, hi1, s7⟩
    have hA1 := (hi1 (fun _ => False) (fun _ h => h.elim)).now
    have S := S.trans s7
    have S0 := S0.trans s7
    obtain ⟨A1, hAe1⟩ : ∃ A, buildA 300 R = A := ⟨_, rfl⟩
    obtain ⟨r1, hre1⟩ : ∃ r, buildR 300 R = r := ⟨_, rfl⟩
    have hB1 := build_ok (size := 300) hRs (by omega) (by decide) (by decide)
    have hM1 := build_map (size := 300) hRs (by omega) (by decide) (by decide) (by omega)
    have hT1 := hB1.isT
    have hU1 := hB1.u
    rw [hAe1, hre1] at hT1 hM1
    rw [hre1] at hU1
    rw [hAe1] at hA1
    rw [hAe1, hre1]
    obtain ⟨W1, S1, hA1⟩ : ∃ W, Sub W w6 ∧ ArR W na1 fa1 A1 := ⟨_, Sub.refl _, hA1⟩
    refine RL.ev (.move rfl) rfl rfl ?_
    refine RL.ev (.extract rfl rfl) rfl rfl ?_
    refine RL.ev (.extract rfl rfl) rfl rfl ?_
    refine RL.alloc ze28 rfl rfl (fun b_10 w_10 e_10 z_10 hb_10 s_10 => ?_)
    have ge_10 := S.le e_10
    have S := S.trans s_10
    have geS0_10 := S0.le e_10
    have S0 := S0.trans s_10
    have geS1_10 := S1.le e_10
    have S1 := S1.trans s_10
    refine RL.store sh28 rfl rfl rfl hb_10 (by exact Nat.le_of_ble_eq_true rfl) (by rfl) rfl (fun w8 z8 hb_10 a8 => ?_)
    have S := S.upd a8 ge_10
    have S0 := S0.upd a8 geS0_10
    have S1 := S1.upd a8 geS1_10
    have hb_10 : Has w8 b_10 ([.slice na1 A1.nodes.length nc1, .slice fa1 A1.free.length fc1]) _ := hb_10.now (by kernel_rfl)
    refine RL.ev (.assign rfl) rfl rfl ?_
    refine RL.nil (RC.back ?_)
    refine RC.seq ?_
    refine RC.region rfl ?_
    refine RL.ev (.move rfl) rfl rfl ?_
    refine RL.ev (.move rfl) rfl rfl ?_
    refine RL.call rfl ok13 (c_refPut R ra rc rm hm kk 1 w8 (hr.sub S0) (by omega)) rfl rfl ?_
    rintro vr w9 ⟨a2, c2, hvr, o2, s10⟩
    have S := S.trans s10
    have S0 := S0.trans s10
    have S1 := S1.trans s10
    have hb_10 := hb_10.sub s10
    have hQs := putR_ok hRs kk 1
    have hQl := putR_len R kk 1
    have hQsz := putR_size hRs kk 1
    have hQrk := putR_rank hRs kk 1 other
    have hQok : ∀ z ∈ putR R kk 1, z.ok := (fun z hz => ((putR_mem hRs).1 hz).elim (fun e => e ▸ ⟨by unfold I64; show _ ≤ kk ∧ kk ≤ _; omega, (show I64 1 by unfold I64; decide)⟩) (fun h => hRok z h.1))
    obtain ⟨Q, hQ⟩ : ∃ Q, putR R kk 1 = Q := ⟨_, rfl⟩
    rw [hQ] at hvr o2 hQs hQl hQok hQsz hQrk
    subst hvr
    have hc2 : Q.length ≤ c2 := (by obtain ⟨_, c', e, h⟩ := o2.form; cases e; rw [List.length_map] at h; exact h)
    refine RL.call rfl ok14 (c_build 300 Q a2 c2 _ (List.length_map _) hc2 hQs hQok (by omega) (by decide) (by decide) w9 o2.sl.1) rfl rfl ?_
    rintro _ w11 ⟨na2, fa2, nc2, fc2, rfl, hn2, hf2, hi2, s12⟩
    have hA2 := (hi2 (fun _ => False) (fun _ h => h.elim)).now
    have S := S.trans s12
    have S0 := S0.trans s12
    have S1 := S1.trans s12
    have hb_10 := hb_10.sub s12
    obtain ⟨A2, hAe2⟩ : ∃ A, buildA 300 Q = A := ⟨_, rfl⟩
    obtain ⟨r2, hre2⟩ : ∃ r, buildR 300 Q = r := ⟨_, rfl⟩
    have hB2 := build_ok (size := 300) hQs (by omega) (by decide) (by decide)
    have hM2 := build_map (size := 300) hQs (by omega) (by decide) (by decide) (by omega)
    have hT2 := hB2.isT
    have hU2 := hB2.u
    rw [hAe2, hre2] at hT2 hM2
    rw [hre2] at hU2
    rw [hAe2] at hA2
    rw [hAe2, hre2]
    obtain ⟨W2, S2, hA2⟩ : ∃ W, Sub W w11 ∧ ArR W na2 fa2 A2 := ⟨_, Sub.refl _, hA2⟩
    refine RL.ev (.move rfl) rfl rfl ?_
    refine RL.ev (.extract rfl rfl) rfl rfl ?_
    refine RL.ev (.extract rfl rfl) rfl rfl ?_
    refine RL.alloc ze28 rfl rfl (fun b_12 w_12 e_12 z_12 hb_12 s_12 => ?_)
    have ge_12 := S.le e_12
    have n_10__12 := hb_10.ne e_12
    have S := S.trans s_12
    have geS0_12 := S0.le e_12
    have S0 := S0.trans s_12
    have geS1_12 := S1.le e_12
    have S1 := S1.trans s_12
    have hb_10 := hb_10.sub s_12
    have geS2_12 := S2.le e_12
    have S2 := S2.trans s_12
    refine RL.store sh28 rfl rfl rfl hb_12 (by exact Nat.le_of_ble_eq_true rfl) (by rfl) rfl (fun w13 z13 hb_12 a13 => ?_)
    have S := S.upd a13 ge_12
    have S0 := S0.upd a13 geS0_12
    have S1 := S1.upd a13 geS1_12
    have hb_10 := hb_10.upd a13 n_10__12
    have S2 := S2.upd a13 geS2_12
    have hb_12 : Has w13 b_12 ([.slice na2 A2.nodes.length nc2, .slice fa2 A2.free.length fc2]) _ := hb_12.now (by kernel_rfl)
    refine RL.ev (.assign rfl) rfl rfl ?_
    refine RL.nil (RC.back ?_)
    refine RC.seq ?_
    refine RC.region rfl ?_
    refine RL.ev (.loadR ([.slice na1 A1.nodes.length nc1, .slice fa1 A1.free.length fc1]) sh28 rfl hb_10.row rfl) rfl rfl ?_
    refine RL.ev (.move rfl) rfl rfl ?_
    refine RL.ev (.move rfl) rfl rfl ?_
    refine RL.call rfl ok15 (c_oRank A1 na1 fa1 nc1 fc1 r1 hU1 other w13 (hA1.sub S1)) rfl rfl ?_
    rintro _ w14 ⟨s15, n1, e1, rfl, _, hn⟩
    have S := S.trans s15
    have S0 := S0.trans s15
    have S1 := S1.trans s15
    have hb_10 := hb_10.sub s15
    have S2 := S2.trans s15
    have hb_12 := hb_12.sub s15
    obtain ⟨rfl, rfl⟩ := hn R hM1 hT1
    refine RL.ev (.move rfl) rfl rfl ?_
    refine RL.ev (.extract rfl rfl) rfl rfl ?_
    refine RL.ev (.extract rfl rfl) rfl rfl ?_
    refine RL.ev (.assign rfl) rfl rfl ?_
    refine RL.ev (.assign rfl) rfl rfl ?_
    refine RL.nil (RC.back ?_)
    refine RC.seq ?_
    refine RC.region rfl ?_
    refine RL.ev (.loadR ([.slice na2 A2.nodes.length nc2, .slice fa2 A2.free.length fc2]) sh28 rfl hb_12.row rfl) rfl rfl ?_
    refine RL.ev (.move rfl) rfl rfl ?_
    refine RL.ev (.move rfl) rfl rfl ?_
    refine RL.call rfl ok15 (c_oRank A2 na2 fa2 nc2 fc2 r2 hU2 other w14 (hA2.sub S2)) rfl rfl ?_
    rintro _ w16 ⟨s17, n2, e2, rfl, _, hn⟩
    have S := S.trans s17
    have S0 := S0.trans s17
    have S1 := S1.trans s17
    have hb_10 := hb_10.sub s17
    have S2 := S2.trans s17
    have hb_12 := hb_12.sub s17
    obtain ⟨rfl, rfl⟩ := hn Q hM2 hT2
    refine RL.ev (.move rfl) rfl rfl ?_
    refine RL.ev (.extract rfl rfl) rfl rfl ?_
    refine RL.ev (.extract rfl rfl) rfl rfl ?_
    refine RL.ev (.assign rfl) rfl rfl ?_
    refine RL.ev (.assign rfl) rfl rfl ?_
    refine RL.nil (RC.back ?_)
    refine RC.seq ?_
    refine RC.region rfl ?_
    refine RL.ev (.loadR ([.slice na1 A1.nodes.length nc1, .slice fa1 A1.free.length fc1]) sh28 rfl hb_10.row rfl) rfl rfl ?_
    refine RL.ev (.move rfl) rfl rfl ?_
    refine RL.call rfl ok16 (c_oSize A1 na1 fa1 nc1 fc1 r1 hU1 w16 (hA1.sub S1)) rfl rfl ?_
    rintro _ w18 ⟨s19, n3, e3, rfl, _, hn⟩
    have S := S.trans s19
    have S0 := S0.trans s19
    have S1 := S1.trans s19
    have hb_10 := hb_10.sub s19
    have S2 := S2.trans s19
    have hb_12 := hb_12.sub s19
    obtain ⟨rfl, rfl⟩ := hn R hM1 hT1
    refine RL.ev (.move rfl) rfl rfl ?_
    refine RL.ev (.extract rfl rfl) rfl rfl ?_
    refine RL.ev (.extract rfl rfl) rfl rfl ?_
    refine RL.ev (.assign rfl) rfl rfl ?_
    refine RL.ev (.assign rfl) rfl rfl ?_
    refine RL.nil (RC.back ?_)
    refine RC.seq ?_
    refine RC.region rfl ?_
    refine RL.ev (.loadR ([.slice na2 A2.nodes.length nc2, .slice fa2 A2.free.length fc2]) sh28 rfl hb_12.row rfl) rfl rfl ?_
    refine RL.ev (.move rfl) rfl rfl ?_
    refine RL.call rfl ok16 (c_oSize A2 na2 fa2 nc2 fc2 r2 hU2 w18 (hA2.sub S2)) rfl rfl ?_
    rintro _ w20 ⟨s21, n4, e4, rfl, _, hn⟩
    have S := S.trans s21
    have S0 := S0.trans s21
    have S1 := S1.trans s21
    have hb_10 := hb_10.sub s21
    have S2 := S2.trans s21
    have hb_12 := hb_12.sub s21
    obtain ⟨rfl, rfl⟩ := hn Q hM2 hT2
    refine RL.ev (.move rfl) rfl rfl ?_
    refine RL.ev (.extract rfl rfl) rfl rfl ?_
    refine RL.ev (.extract rfl rfl) rfl rfl ?_
    refine RL.ev (.assign rfl) rfl rfl ?_
    refine RL.ev (.assign rfl) rfl rfl ?_
    refine RL.nil (RC.back ?_)
    refine RC.seq ?_
    refine RC.region rfl ?_
    refine RL.ev (.assign rfl) rfl rfl ?_
    refine RL.nil (RC.back ?_)
    refine RC.seq ?_
    refine RC.seq ?_
    refine RC.region rfl ?_
    refine RL.ev (.move rfl) rfl rfl ?_
    refine RL.ev (.move rfl) rfl rfl ?_
    refine RL.call rfl ok17 (c_refAt6 R ra rc rm hm kk w20 (hr.sub S0) (by omega)) rfl rfl ?_
    rintro _ w22 ⟨s23, n5, rfl, hn5⟩
    have S := S.trans s23
    have S0 := S0.trans s23
    have S1 := S1.trans s23
    have hb_10 := hb_10.sub s23
    have S2 := S2.trans s23
    have hb_12 := hb_12.sub s23
    have hfl : (R.filter fun x => decide (x.k < other)).length ≤ R.length := List.length_filter_le _ _
    refine RL.ev (.bin rfl rfl rfl) rfl rfl ?_
    refine RL.nil (RC.back ?_)
    refine RC.cond_dec rfl (fun h24 => ?_) (fun h24 => ?_)
    ·
      have hhas : hasK R kk = false := (hn5.resolve_right (fun h => by omega)).2
      rw [hhas] at hQsz hQrk
      simp only [Bool.false_eq_true, if_false, and_true] at hQsz hQrk
      refine RC.region rfl ?_
      refine RL.ev (.assign rfl) rfl rfl ?_
      refine RL.nil (RC.back ?_)
      refine RC.seq ?_
      refine RC.seq ?_
      refine RC.region rfl ?_
      refine RL.ev (.move rfl) rfl rfl ?_
      refine RL.ev (.move rfl) rfl rfl ?_
      refine RL.ev (.bin rfl rfl rfl) rfl rfl ?_
      refine RL.nil (RC.back ?_)
      refine RC.cond_dec rfl (fun h25 => ?_) (fun h25 => ?_)
      ·
        (try rw [if_pos (by omega)] at hQrk)
        refine RC.region rfl ?_
        refine RL.ev (.move rfl) rfl rfl ?_
        refine RL.ev (.move rfl) rfl rfl ?_
        refine RL.ev (.as (.bin rfl rfl rfl) (wi64 (y := ((Q.filter fun x => decide (x.k < other)).length : Int)) (by omega) (by omega))) rfl rfl ?_
        refine RL.ev (.assign rfl) rfl rfl ?_
        refine RL.nil (RC.back ?_)
        refine RC.seq ?_
        refine RC.region rfl ?_
        refine RL.call rfl ok18 (c_alive7 w22) rfl rfl ?_
        rintro _ w26 ⟨rfl, s27⟩
        have S := S.trans s27
        have S0 := S0.trans s27
        have S1 := S1.trans s27
        have hb_10 := hb_10.sub s27
        have S2 := S2.trans s27
        have hb_12 := hb_12.sub s27
        refine RL.ev (.move rfl) rfl rfl ?_
        refine RL.ev (.move rfl) rfl rfl ?_
        refine RL.ev (.as (v' := .bool true) (.bin rfl rfl rfl) (congrArg Value.bool (decide_eq_true (rfl)))) rfl rfl ?_
        refine RL.ev (.pick_t rfl rfl) rfl rfl ?_
        refine RL.ev (.move rfl) rfl rfl ?_
        refine RL.ev (.move rfl) rfl rfl ?_
        refine RL.ev (.as (v' := .bool true) (.bin rfl rfl rfl) (congrArg Value.bool (decide_eq_true (rfl)))) rfl rfl ?_
        refine RL.ev (.pick_t rfl rfl) rfl rfl ?_
        refine RL.ev (.move rfl) rfl rfl ?_
        refine RL.ev (.move rfl) rfl rfl ?_
        refine RL.ev (.as (v' := .bool true) (.bin rfl rfl rfl) (congrArg Value.bool (decide_eq_true (rfl)))) rfl rfl ?_
        refine RL.ev (.pick_t rfl rfl) rfl rfl ?_
        refine RL.ev (.move rfl) rfl rfl ?_
        refine RL.ev (.move rfl) rfl rfl ?_
        refine RL.ev (.as (v' := .bool true) (.bin rfl rfl rfl) (congrArg Value.bool (decide_eq_true (rfl)))) rfl rfl ?_
        refine RL.ev (.pick_t rfl rfl) rfl rfl ?_
        refine RL.ev (.move rfl) rfl rfl ?_
        refine RL.ev (.move rfl) rfl rfl ?_
        refine RL.ev (.move rfl) rfl rfl ?_
        refine RL.ev (.move rfl) rfl rfl ?_
        refine RL.ev (.as (.bin rfl rfl rfl) (wi64 (y := (Q.length : Int)) (by omega) (by omega))) rfl rfl ?_
        refine RL.ev (.as (v' := .bool true) (.bin rfl rfl rfl) (congrArg Value.bool (decide_eq_true (rfl)))) rfl rfl ?_
        refine RL.ev (.pick_t rfl rfl) rfl rfl ?_
        refine RL.ev (.move rfl) rfl rfl ?_
        refine RL.ev (.move rfl) rfl rfl ?_
        refine RL.ev (.move rfl) rfl rfl ?_
        refine RL.ev (.as (v' := .bool true) (.bin rfl rfl rfl) (congrArg Value.bool (decide_eq_true (by omega)))) rfl rfl ?_
        refine RL.ev (.pick_t rfl rfl) rfl rfl ?_
        refine RL.ev (.assign rfl) rfl rfl ?_
        refine RL.nil (RC.back ?_)
        refine RC.done (rs := [.tmp 6]) (vs := [_]) rfl rfl ⟨rfl, trivial⟩ ?_
        -- end 1
        exact ⟨rfl, S⟩
      ·
        (try rw [if_neg (by omega)] at hQrk)
        refine RC.skip (RC.back ?_)
        refine RC.seq ?_
        refine RC.region rfl ?_
        refine RL.call rfl ok18 (c_alive7 w22) rfl rfl ?_
        rintro _ w28 ⟨rfl, s29⟩
        have S := S.trans s29
        have S0 := S0.trans s29
        have S1 := S1.trans s29
        have hb_10 := hb_10.sub s29
        have S2 := S2.trans s29
        have hb_12 := hb_12.sub s29
        refine RL.ev (.move rfl) rfl rfl ?_
        refine RL.ev (.move rfl) rfl rfl ?_
        refine RL.ev (.as (v' := .bool true) (.bin rfl rfl rfl) (congrArg Value.bool (decide_eq_true (rfl)))) rfl rfl ?_
        refine RL.ev (.pick_t rfl rfl) rfl rfl ?_
        refine RL.ev (.move rfl) rfl rfl ?_
        refine RL.ev (.move rfl) rfl rfl ?_
        refine RL.ev (.as (v' := .bool true) (.bin rfl rfl rfl) (congrArg Value.bool (decide_eq_true (rfl)))) rfl rfl ?_
        refine RL.ev (.pick_t rfl rfl) rfl rfl ?_
        refine RL.ev (.move rfl) rfl rfl ?_
        refine RL.ev (.move rfl) rfl rfl ?_
        refine RL.ev (.as (v' := .bool true) (.bin rfl rfl rfl) (congrArg Value.bool (decide_eq_true (rfl)))) rfl rfl ?_
        refine RL.ev (.pick_t rfl rfl) rfl rfl ?_
        refine RL.ev (.move rfl) rfl rfl ?_
        refine RL.ev (.move rfl) rfl rfl ?_
        refine RL.ev (.as (v' := .bool true) (.bin rfl rfl rfl) (congrArg Value.bool (decide_eq_true (rfl)))) rfl rfl ?_
        refine RL.ev (.pick_t rfl rfl) rfl rfl ?_
        refine RL.ev (.move rfl) rfl rfl ?_
        refine RL.ev (.move rfl) rfl rfl ?_
        refine RL.ev (.move rfl) rfl rfl ?_
        refine RL.ev (.move rfl) rfl rfl ?_
        refine RL.ev (.as (.bin rfl rfl rfl) (wi64 (y := (Q.length : Int)) (by omega) (by omega))) rfl rfl ?_
        refine RL.ev (.as (v' := .bool true) (.bin rfl rfl rfl) (congrArg Value.bool (decide_eq_true (rfl)))) rfl rfl ?_
        refine RL.ev (.pick_t rfl rfl) rfl rfl ?_
        refine RL.ev (.move rfl) rfl rfl ?_
        refine RL.ev (.move rfl) rfl rfl ?_
        refine RL.ev (.move rfl) rfl rfl ?_
        refine RL.ev (.as (v' := .bool true) (.bin rfl rfl rfl) (congrArg Value.bool (decide_eq_true (by omega)))) rfl rfl ?_
        refine RL.ev (.pick_t rfl rfl) rfl rfl ?_
        refine RL.ev (.assign rfl) rfl rfl ?_
        refine RL.nil (RC.back ?_)
        refine RC.done (rs := [.tmp 6]) (vs := [_]) rfl rfl ⟨rfl, trivial⟩ ?_
        -- end 2
        exact ⟨rfl, S⟩
    ·
      have hhas : hasK R kk = true := (hn5.resolve_left (fun h => by omega)).2.1
      rw [hhas] at hQsz hQrk
      simp only [if_true, Bool.true_eq_false, and_false, if_false] at hQsz hQrk
      refine RC.skip (RC.back ?_)
      refine RC.seq ?_
      refine RC.seq ?_
      refine RC.region rfl ?_
      refine RL.ev (.move rfl) rfl rfl ?_
      refine RL.ev (.move rfl) rfl rfl ?_
      refine RL.ev (.bin rfl rfl rfl) rfl rfl ?_
      refine RL.nil (RC.back ?_)
      refine RC.cond_dec rfl (fun h30 => ?_) (fun h30 => ?_)
      ·
        (try rw [if_pos (by omega)] at hQrk)
        refine RC.region rfl ?_
        refine RL.ev (.move rfl) rfl rfl ?_
        refine RL.ev (.move rfl) rfl rfl ?_
        refine RL.ev (.as (.bin rfl rfl rfl) (wi64 (y := ((Q.filter fun x => decide (x.k < other)).length : Int)) (by omega) (by omega))) rfl rfl ?_
        refine RL.ev (.assign rfl) rfl rfl ?_
        refine RL.nil (RC.back ?_)
        refine RC.seq ?_
        refine RC.region rfl ?_
        refine RL.call rfl ok18 (c_alive7 w22) rfl rfl ?_
        rintro _ w31 ⟨rfl, s32⟩
        have S := S.trans s32
        have S0 := S0.trans s32
        have S1 := S1.trans s32
        have hb_10 := hb_10.sub s32
        have S2 := S2.trans s32
        have hb_12 := hb_12.sub s32
        refine RL.ev (.move rfl) rfl rfl ?_
        refine RL.ev (.move rfl) rfl rfl ?_
        refine RL.ev (.as (v' := .bool true) (.bin rfl rfl rfl) (congrArg Value.bool (decide_eq_true (rfl)))) rfl rfl ?_
        refine RL.ev (.pick_t rfl rfl) rfl rfl ?_
        refine RL.ev (.move rfl) rfl rfl ?_
        refine RL.ev (.move rfl) rfl rfl ?_
        refine RL.ev (.as (v' := .bool true) (.bin rfl rfl rfl) (congrArg Value.bool (decide_eq_true (rfl)))) rfl rfl ?_
        refine RL.ev (.pick_t rfl rfl) rfl rfl ?_
        refine RL.ev (.move rfl) rfl rfl ?_
        refine RL.ev (.move rfl) rfl rfl ?_
        refine RL.ev (.as (v' := .bool true) (.bin rfl rfl rfl) (congrArg Value.bool (decide_eq_true (rfl)))) rfl rfl ?_
        refine RL.ev (.pick_t rfl rfl) rfl rfl ?_
        refine RL.ev (.move rfl) rfl rfl ?_
        refine RL.ev (.move rfl) rfl rfl ?_
        refine RL.ev (.as (v' := .bool true) (.bin rfl rfl rfl) (congrArg Value.bool (decide_eq_true (rfl)))) rfl rfl ?_
        refine RL.ev (.pick_t rfl rfl) rfl rfl ?_
        refine RL.ev (.move rfl) rfl rfl ?_
        refine RL.ev (.move rfl) rfl rfl ?_
        refine RL.ev (.move rfl) rfl rfl ?_
        refine RL.ev (.move rfl) rfl rfl ?_
        refine RL.ev (.as (.bin rfl rfl rfl) (wi64 (y := (Q.length : Int)) (by omega) (by omega))) rfl rfl ?_
        refine RL.ev (.as (v' := .bool true) (.bin rfl rfl rfl) (congrArg Value.bool (decide_eq_true (rfl)))) rfl rfl ?_
        refine RL.ev (.pick_t rfl rfl) rfl rfl ?_
        refine RL.ev (.move rfl) rfl rfl ?_
        refine RL.ev (.move rfl) rfl rfl ?_
        refine RL.ev (.move rfl) rfl rfl ?_
        refine RL.ev (.as (v' := .bool true) (.bin rfl rfl rfl) (congrArg Value.bool (decide_eq_true (by omega)))) rfl rfl ?_
        refine RL.ev (.pick_t rfl rfl) rfl rfl ?_
        refine RL.ev (.assign rfl) rfl rfl ?_
        refine RL.nil (RC.back ?_)
        refine RC.done (rs := [.tmp 6]) (vs := [_]) rfl rfl ⟨rfl, trivial⟩ ?_
        -- end 3
        exact ⟨rfl, S⟩
      ·
        (try rw [if_neg (by omega)] at hQrk)
        refine RC.skip (RC.back ?_)
        refine RC.seq ?_
        refine RC.region rfl ?_
        refine RL.call rfl ok18 (c_alive7 w22) rfl rfl ?_
        rintro _ w33 ⟨rfl, s34⟩
        have S := S.trans s34
        have S0 := S0.trans s34
        have S1 := S1.trans s34
        have hb_10 := hb_10.sub s34
        have S2 := S2.trans s34
        have hb_12 := hb_12.sub s34
        refine RL.ev (.move rfl) rfl rfl ?_
        refine RL.ev (.move rfl) rfl rfl ?_
        refine RL.ev (.as (v' := .bool true) (.bin rfl rfl rfl) (congrArg Value.bool (decide_eq_true (rfl)))) rfl rfl ?_
        refine RL.ev (.pick_t rfl rfl) rfl rfl ?_
        refine RL.ev (.move rfl) rfl rfl ?_
        refine RL.ev (.move rfl) rfl rfl ?_
        refine RL.ev (.as (v' := .bool true) (.bin rfl rfl rfl) (congrArg Value.bool (decide_eq_true (rfl)))) rfl rfl ?_
        refine RL.ev (.pick_t rfl rfl) rfl rfl ?_
        refine RL.ev (.move rfl) rfl rfl ?_
        refine RL.ev (.move rfl) rfl rfl ?_
        refine RL.ev (.as (v' := .bool true) (.bin rfl rfl rfl) (congrArg Value.bool (decide_eq_true (rfl)))) rfl rfl ?_
        refine RL.ev (.pick_t rfl rfl) rfl rfl ?_
        refine RL.ev (.move rfl) rfl rfl ?_
        refine RL.ev (.move rfl) rfl rfl ?_
        refine RL.ev (.as (v' := .bool true) (.bin rfl rfl rfl) (congrArg Value.bool (decide_eq_true (rfl)))) rfl rfl ?_
        refine RL.ev (.pick_t rfl rfl) rfl rfl ?_
        refine RL.ev (.move rfl) rfl rfl ?_
        refine RL.ev (.move rfl) rfl rfl ?_
        refine RL.ev (.move rfl) rfl rfl ?_
        refine RL.ev (.move rfl) rfl rfl ?_
        refine RL.ev (.as (.bin rfl rfl rfl) (wi64 (y := (Q.length : Int)) (by omega) (by omega))) rfl rfl ?_
        refine RL.ev (.as (v' := .bool true) (.bin rfl rfl rfl) (congrArg Value.bool (decide_eq_true (rfl)))) rfl rfl ?_
        refine RL.ev (.pick_t rfl rfl) rfl rfl ?_
        refine RL.ev (.move rfl) rfl rfl ?_
        refine RL.ev (.move rfl) rfl rfl ?_
        refine RL.ev (.move rfl) rfl rfl ?_
        refine RL.ev (.as (v' := .bool true) (.bin rfl rfl rfl) (congrArg Value.bool (decide_eq_true (by omega)))) rfl rfl ?_
        refine RL.ev (.pick_t rfl rfl) rfl rfl ?_
        refine RL.ev (.assign rfl) rfl rfl ?_
        refine RL.nil (RC.back ?_)
        refine RC.done (rs := [.tmp 6]) (vs := [_]) rfl rfl ⟨rfl, trivial⟩ ?_
        -- end 4
        exact ⟨rfl, S⟩
end Go.Proofs.Ytekdjjppdijkmaa
