/-
  The statement OrderBack.
-/
import Derived.Test.YtekdjjppdijkmaaOrderTellP
set_option linter.unusedVariables false
set_option linter.unusedSimpArgs false
namespace Go.Proofs.Ytekdjjppdijkmaa
open Go Go.XL


def mod1000 (x : Int) : Int := x.tmod 1000
set_option maxHeartbeats 1000000 in
theorem law_OrderBack (w : World) (l : List Int) (pa : Option Addr) (pc : Nat) (hlc : l.length ≤ pc) (hcm : pc ≤ maxLen) (hs : Sl w pa 1 (l.map fun x => [i6 x])) (hli : ∀ x ∈ l, I64 x) (p : Int) (wp : (Lit.int .i64 p).wf = true) (a : Int) (wa : (Lit.int .i64 a).wf = true) (b : Int) (wb : (Lit.int .i64 b).wf = true) :
    FC Try.prog 5 [.slice pa l.length pc, .int .i64 p, .int .i64 a, .int .i64 b] w (Val (.bool true) w) := by
  have hll : l.length ≤ 9223372036854775807 := Nat.le_trans hlc (Nat.le_trans hcm (by decide))
  have hp : -9223372036854775808 ≤ p ∧ p ≤ 9223372036854775807 := wfI wp
  have ha := wfI wa
  have hb := wfI wb
  refine FC.intro Try.func5 rfl Try.ntmps5 rfl ?_
  have S := Sub.refl w
  refine RC.seq ?_
  refine RC.region rfl ?_
  refine RL.ev (.assign rfl) rfl rfl ?_
  refine RL.nil (RC.back ?_)
  refine RC.seq ?_
  refine RC.region rfl ?_
  refine RL.ev (.assign rfl) rfl rfl ?_
  refine RL.nil (RC.back ?_)
  refine RC.seq ?_
  refine RC.seq ?_
  refine RC.region rfl ?_
  refine RL.ev (.move rfl) rfl rfl ?_
  refine RL.ev (.len sl22 rfl) rfl rfl ?_
  refine RL.ev (.move rfl) rfl rfl ?_
  refine RL.nil (RC.back ?_)
  refine RC.block ?_
  refine RC.loop (α := Nat × Option Addr × Nat × Nat) (fun x => [(1, .int .i64 p), (2, .int .i64 a), (3, .int .i64 b), (9, .slice x.2.1 x.2.2.1 x.2.2.2), (27, .slice pa l.length pc), (28, .int .i64 (l.length : Int)), (29, .int .i64 (x.1 : Int))]) (fun x w1 => (x.1 ≤ l.length ∧ x.2.2.1 = (rowN mod1000 idM 30 l x.1).length ∧ (rowN mod1000 idM 30 l x.1).length ≤ x.2.2.2) ∧ Sl w1 x.2.1 2 ((rowN mod1000 idM 30 l x.1).map It.cells) ∧ Sub w w1) (fun x => l.length - x.1) (0, none, 0, 0) (keep_of (by repeat (first | exact trivial | refine And.intro rfl ?_))) (⟨⟨Nat.zero_le _, rfl, Nat.zero_le _⟩, Sl.nil _ _ _, S⟩) (fun x w1 hJ => ?_)
  obtain ⟨i, ra, rm, rc⟩ := x; obtain ⟨⟨hi, hm, hc⟩, hr, S⟩ := hJ; simp only [] at hi hm hc hr; have hrl := rowN_len mod1000 idM 30 l i
  refine RC.seq ?_
  refine RC.region rfl ?_
  refine RL.ev (.bin rfl rfl rfl) rfl rfl ?_
  refine RL.nil (RC.back ?_)
  refine RC.seq ?_
  refine RC.cond_dec rfl (fun h2 => ?_) (fun h2 => ?_)
  ·
    obtain ⟨x, hx⟩ := getSome (l := l) (i := i) (by omega)
    have hxi : -9223372036854775808 ≤ x ∧ x ≤ 9223372036854775807 := hli x (List.mem_of_getElem? hx)
    have nmx := norm_mod x 1000 (by decide)
    refine RC.skip (RC.back ?_)
    refine RC.seq ?_
    refine RC.block ?_
    refine RC.seq ?_
    refine RC.region rfl ?_
    refine RL.ev (.move rfl) rfl rfl ?_
    refine RL.ev (.indexS sl22 rfl rfl (by omega) (hs.is (i := 0) (by simp only [List.length_map]; omega))) rfl rfl ?_
    refine RL.ev (.load1 sh2 rfl ((hs.sub S).one (enc := i6) (i := i) hx)) rfl rfl ?_
    refine RL.ev (.assign rfl) rfl rfl ?_
    refine RL.ev (.assign rfl) rfl rfl ?_
    refine RL.nil (RC.back ?_)
    refine RC.seq ?_
    refine RC.region rfl ?_
    refine RL.ev (.move rfl) rfl rfl ?_
    refine RL.ev (.bin rfl rfl rfl) rfl rfl ?_
    refine RL.nil (RC.back ?_)
    refine RC.cond_dec rfl (fun h3 => ?_) (fun h3 => ?_)
    ·
      have hlt : i < 30 := (by omega)
      refine RC.region rfl ?_
      refine RL.ev (.move rfl) rfl rfl ?_
      refine RL.ev (.move rfl) rfl rfl ?_
      refine RL.ev (.rem rfl rfl (by decide)) rfl rfl ?_
      refine RL.ev (.move rfl) rfl rfl ?_
      refine RL.call rfl ok13 (c_refPut (rowN mod1000 idM 30 l i) ra rc rm hm (x.tmod 1000) (i : Int) w1 hr (by omega)) rfl rfl ?_
      rintro vr w4 ⟨a1, c1, hvr, o1, s5⟩
      have S := S.trans s5
      rw [← show rowN mod1000 idM 30 l (i + 1) = putR (rowN mod1000 idM 30 l i) (x.tmod 1000) (i : Int) from rowN_put hx hlt] at hvr o1
      subst hvr
      have hc1 : (rowN mod1000 idM 30 l (i + 1)).length ≤ c1 := (by obtain ⟨_, c', e, h⟩ := o1.form; cases e; rw [List.length_map] at h; exact h)
      refine RL.ev (.assign rfl) rfl rfl ?_
      refine RL.nil (RC.back ?_)
      refine RC.region rfl ?_
      refine RL.ev (.as (.bin rfl rfl rfl) (wi64 (y := ((i + 1 : Nat) : Int)) (by omega) (by omega))) rfl rfl ?_
      refine RL.ev (.move rfl) rfl rfl ?_
      exact RL.nil (fun a ka => ⟨(i + 1, a1, _, c1), ⟨⟨by omega, List.length_map _, hc1⟩, o1.sl.1, S⟩, by omega, ka.keep (keep_of (by repeat (first | exact trivial | refine And.intro rfl ?_)))⟩)
    ·
      have hge : ¬ i < 30 := (by omega)
      rw [← rowN_stay hge] at hm hc hr
      refine RC.skip (RC.back ?_)
      refine RC.region rfl ?_
      refine RL.ev (.as (.bin rfl rfl rfl) (wi64 (y := ((i + 1 : Nat) : Int)) (by omega) (by omega))) rfl rfl ?_
      refine RL.ev (.move rfl) rfl rfl ?_
      exact RL.nil (fun a ka => ⟨(i + 1, ra, rm, rc), ⟨⟨by omega, hm, hc⟩, hr, S⟩, by omega, ka.keep (keep_of (by repeat (first | exact trivial | refine And.intro rfl ?_)))⟩)
  ·
    obtain rfl : i = l.length := (by omega)
    have hRs := rowN_srt mod1000 idM 30 l l.length
    have hRok := rowN_all (f := mod1000) (g := idM) (most := 30) (l := l) (P := It.ok) (fun x hx i hi => ⟨by have := norm_mod x 1000 (by decide); unfold I64; show _ ≤ x.tmod 1000 ∧ x.tmod 1000 ≤ _; omega, by unfold I64; show _ ≤ (i : Int) ∧ (i : Int) ≤ _; omega⟩) l.length (Nat.le_refl _)
    obtain ⟨R, hR⟩ : ∃ R, rowN mod1000 idM 30 l l.length = R := ⟨_, rfl⟩
    rw [hR] at hm hc hr hrl hRs hRok
    have hR30 := hrl.1
    subst hm
    obtain ⟨W0, S0, hr⟩ : ∃ W, Sub W w1 ∧ Sl W ra 2 (R.map It.cells) := ⟨_, Sub.refl _, hr⟩
    refine RC.exit rfl (RC.back ?_)
    refine RC.seq ?_
    refine RC.region rfl ?_
    refine RL.ev (.move rfl) rfl rfl ?_
    refine RL.ev (.len sl23 rfl) rfl rfl ?_
    refine RL.ev (.as (.bin rfl rfl rfl) (wi64 (y := ((R.length + 1 : Nat) : Int)) (by show (R.length : Int) + 1 = _; omega) (by omega))) rfl rfl ?_
    refine RL.ev (.move rfl) rfl rfl ?_
    refine RL.call rfl ok14 (c_build (R.length + 1) R ra rc R.length rfl hc hRs hRok (by omega) (by omega) (by omega) w1 (hr.sub S0)) rfl rfl ?_
    rintro _ w6 ⟨na1, fa1, nc1, fc1, rfl, hn1, hf1, hi1, s7⟩
    have hA1 := (hi1 (fun _ => False) (fun _ h => h.elim)).now
    have S := S.trans s7
    have S0 := S0.trans s7
    obtain ⟨A1, hAe1⟩ : ∃ A, buildA (R.length + 1) R = A := ⟨_, rfl⟩
    obtain ⟨r1, hre1⟩ : ∃ r, buildR (R.length + 1) R = r := ⟨_, rfl⟩
    have hB1 := build_ok (size := (R.length + 1)) hRs (by omega) (by omega) (by omega)
    have hM1 := build_map (size := (R.length + 1)) hRs (by omega) (by omega) (by omega) (by omega)
    have hT1 := hB1.isT
    have hU1 := hB1.u
    rw [hAe1, hre1] at hT1 hM1
    rw [hre1] at hU1
    rw [hAe1] at hA1
    rw [hAe1, hre1]
    obtain ⟨W1, S1, hA1⟩ : ∃ W, Sub W w6 ∧ ArR W na1 fa1 A1 := ⟨_, Sub.refl _, hA1⟩
    refine RL.ev (.move rfl) rfl rfl ?_
    refine RL.ev (.extract rfl rfl) rfl rfl ?_
    refine RL.ev (.extract rfl rfl) rfl rfl ?_
    refine RL.alloc ze28 rfl rfl (fun b_12 w_12 e_12 z_12 hb_12 s_12 => ?_)
    have ge_12 := S.le e_12
    have S := S.trans s_12
    have geS0_12 := S0.le e_12
    have S0 := S0.trans s_12
    have geS1_12 := S1.le e_12
    have S1 := S1.trans s_12
    refine RL.store sh28 rfl rfl rfl hb_12 (by exact Nat.le_of_ble_eq_true rfl) (by rfl) rfl (fun w8 z8 hb_12 a8 => ?_)
    have S := S.upd a8 ge_12
    have S0 := S0.upd a8 geS0_12
    have S1 := S1.upd a8 geS1_12
    have hb_12 : Has w8 b_12 ([.slice na1 A1.nodes.length nc1, .slice fa1 A1.free.length fc1]) _ := hb_12.now (by kernel_rfl)
    refine RL.ev (.assign rfl) rfl rfl ?_
    refine RL.nil (RC.back ?_)
    refine RC.seq ?_
    refine RC.region rfl ?_
    refine RL.ev (.loadR ([.slice na1 A1.nodes.length nc1, .slice fa1 A1.free.length fc1]) sh28 rfl hb_12.row rfl) rfl rfl ?_
    refine RL.ev (.move rfl) rfl rfl ?_
    refine RL.ev (.move rfl) rfl rfl ?_
    refine RL.call rfl ok15 (c_oRank A1 na1 fa1 nc1 fc1 r1 hU1 a w8 (hA1.sub S1)) rfl rfl ?_
    rintro _ w9 ⟨s10, n1, e1, rfl, _, hn⟩
    have S := S.trans s10
    have S0 := S0.trans s10
    have S1 := S1.trans s10
    have hb_12 := hb_12.sub s10
    obtain ⟨e5, rfl⟩ := hn R hM1 hT1
    have e5 : n1 = (cntLt R a : Int) := e5
    subst e5
    refine RL.ev (.move rfl) rfl rfl ?_
    refine RL.ev (.extract rfl rfl) rfl rfl ?_
    refine RL.ev (.extract rfl rfl) rfl rfl ?_
    refine RL.ev (.assign rfl) rfl rfl ?_
    refine RL.ev (.assign rfl) rfl rfl ?_
    refine RL.nil (RC.back ?_)
    refine RC.seq ?_
    refine RC.region rfl ?_
    refine RL.ev (.loadR ([.slice na1 A1.nodes.length nc1, .slice fa1 A1.free.length fc1]) sh28 rfl hb_12.row rfl) rfl rfl ?_
    refine RL.ev (.move rfl) rfl rfl ?_
    refine RL.ev (.move rfl) rfl rfl ?_
    refine RL.call rfl ok15 (c_oRank A1 na1 fa1 nc1 fc1 r1 hU1 b w9 (hA1.sub S1)) rfl rfl ?_
    rintro _ w11 ⟨s12, n2, e2, rfl, _, hn⟩
    have S := S.trans s12
    have S0 := S0.trans s12
    have S1 := S1.trans s12
    have hb_12 := hb_12.sub s12
    obtain ⟨e5, rfl⟩ := hn R hM1 hT1
    have e5 : n2 = (cntLt R b : Int) := e5
    subst e5
    have hla := cntLt_le R a
    have hlb := cntLt_le R b
    refine RL.ev (.move rfl) rfl rfl ?_
    refine RL.ev (.extract rfl rfl) rfl rfl ?_
    refine RL.ev (.extract rfl rfl) rfl rfl ?_
    refine RL.ev (.assign rfl) rfl rfl ?_
    refine RL.ev (.assign rfl) rfl rfl ?_
    refine RL.nil (RC.back ?_)
    refine RC.cutx (α := Unit) (fun _ => [(1, .int .i64 p), (9, .slice ra R.length rc), (12, .pointer (some ⟨b_12, 0, none⟩)), (13, .int .u64 r1), (14, .int .i64 (cntLt R a : Int)), (16, .int .i64 (cntLt R b : Int))]) (fun _ w13 => Has w13 b_12 [.slice na1 A1.nodes.length nc1, .slice fa1 A1.free.length fc1] 28 ∧ Sub W1 w13 ∧ Sub w w13) ?_ (fun _ w13 hJ => ?_)
    ·
      refine RC.seq ?_
      refine RC.region rfl ?_
      refine RL.ev (.move rfl) rfl rfl ?_
      refine RL.ev (.as (v' := .bool false) (.bin rfl rfl rfl) (congrArg Value.bool (decide_eq_false (fun h => h rfl)))) rfl rfl ?_
      refine RL.ev (.move rfl) rfl rfl ?_
      refine RL.ev (.move rfl) rfl rfl ?_
      refine RL.ev (.as (v' := .bool false) (.bin rfl rfl rfl) (congrArg Value.bool (decide_eq_false (fun h => h rfl)))) rfl rfl ?_
      refine RL.ev (.pick_f rfl rfl) rfl rfl ?_
      refine RL.ev (.move rfl) rfl rfl ?_
      refine RL.ev (.move rfl) rfl rfl ?_
      refine RL.ev (.move rfl) rfl rfl ?_
      refine RL.ev (.bin rfl rfl rfl) rfl rfl ?_
      refine RL.ev (.move rfl) rfl rfl ?_
      refine RL.split 74 rfl (fun h14 => ?_) (fun h14 => ?_)
      ·
        have hmono := cntLt_mono R h14
        refine RL.ev (.move rfl) rfl rfl ?_
        refine RL.ev (.move rfl) rfl rfl ?_
        refine RL.ev (.as (v' := .bool false) (.bin rfl rfl rfl) (congrArg Value.bool (decide_eq_false (by omega)))) rfl rfl ?_
        refine RL.ev (.pick_t rfl rfl) rfl rfl ?_
        refine RL.ev (.pick_f rfl rfl) rfl rfl ?_
        refine RL.ev (.move rfl) rfl rfl ?_
        refine RL.call rfl ok18 (c_alive7 w11) rfl rfl ?_
        rintro _ w15 ⟨rfl, s16⟩
        have S := S.trans s16
        have S0 := S0.trans s16
        have S1 := S1.trans s16
        have hb_12 := hb_12.sub s16
        refine RL.ev (.not rfl) rfl rfl ?_
        refine RL.ev (.pick_f rfl rfl) rfl rfl ?_
        refine RL.nil (RC.back ?_)
        refine RC.cond_f rfl ?_
        exact RC.skip (fun a ka => ⟨(), ⟨hb_12, S1, S⟩, ka.keep (keep_of (by repeat (first | exact trivial | refine And.intro rfl ?_)))⟩)
      ·
        refine RL.off rfl rfl ?_
        refine RL.off rfl rfl ?_
        refine RL.off rfl rfl ?_
        refine RL.ev (.pick_f rfl rfl) rfl rfl ?_
        refine RL.ev (.pick_f rfl rfl) rfl rfl ?_
        refine RL.ev (.move rfl) rfl rfl ?_
        refine RL.call rfl ok18 (c_alive7 w11) rfl rfl ?_
        rintro _ w17 ⟨rfl, s18⟩
        have S := S.trans s18
        have S0 := S0.trans s18
        have S1 := S1.trans s18
        have hb_12 := hb_12.sub s18
        refine RL.ev (.not rfl) rfl rfl ?_
        refine RL.ev (.pick_f rfl rfl) rfl rfl ?_
        refine RL.nil (RC.back ?_)
        refine RC.cond_f rfl ?_
        exact RC.skip (fun a ka => ⟨(), ⟨hb_12, S1, S⟩, ka.keep (keep_of (by repeat (first | exact trivial | refine And.intro rfl ?_)))⟩)
    obtain ⟨hb_12, S1, S⟩ := hJ
    refine RC.seq ?_
    refine RC.region rfl ?_
    refine RL.ev (.move rfl) rfl rfl ?_
    refine RL.ev (.len sl23 rfl) rfl rfl ?_
    refine RL.ev (.assign rfl) rfl rfl ?_
    refine RL.nil (RC.back ?_)
    refine RC.seq ?_
    refine RC.seq ?_
    refine RC.region rfl ?_
    refine RL.ev (.move rfl) rfl rfl ?_
    refine RL.ev (.bin rfl rfl rfl) rfl rfl ?_
    refine RL.nil (RC.back ?_)
    refine RC.cond_dec rfl (fun h19 => ?_) (fun h19 => ?_)
    ·
      have h0 : R.length = 0 := (by omega)
      refine RC.seq ?_
      refine RC.region rfl ?_
      refine RL.ev (.move rfl) rfl rfl ?_
      refine RL.ev (.as (v' := .bool true) (.bin rfl rfl rfl) (congrArg Value.bool (decide_eq_true (by omega)))) rfl rfl ?_
      refine RL.ev (.move rfl) rfl rfl ?_
      refine RL.ev (.move rfl) rfl rfl ?_
      refine RL.ev (.as (v' := .bool true) (.bin rfl rfl rfl) (congrArg Value.bool (decide_eq_true (by omega)))) rfl rfl ?_
      refine RL.ev (.pick_t rfl rfl) rfl rfl ?_
      refine RL.ev (.assign rfl) rfl rfl ?_
      refine RL.nil (RC.back ?_)
      refine RC.done (rs := [.tmp 8]) (vs := [_]) rfl rfl ⟨rfl, trivial⟩ ?_
      -- end 1
      exact ⟨rfl, S⟩
    ·
      have h0 : 0 < R.length := (by omega)
      have nmp := norm_mod p R.length (by omega)
      have hpe := Int.emod_nonneg p (show (R.length : Int) ≠ 0 by omega)
      have hpl := Int.emod_lt_of_pos p (show (0 : Int) < R.length by omega)
      obtain ⟨q, hq⟩ : ∃ q : Nat, (q : Int) = p % R.length := ⟨(p % R.length).toNat, by omega⟩
      obtain ⟨y, hy⟩ := getSome (l := R) (i := q) (by omega)
      have hyo := hRok y (List.mem_of_getElem? hy)
      have hyk := cntLt_at hRs hy
      have hle1 := (cntLe_lt hRs y.k).1 y (by rw [hyk]; exact hy) rfl
      have hfl := (floor_up hRs y.k (it0, false)).2 q y (by omega) hy
      have hce := (ceil_low hRs y.k (it0, false)).1 y (by rw [hyk]; exact hy)
      refine RC.skip (RC.back ?_)
      refine RC.seq ?_
      refine RC.region rfl ?_
      refine RL.ev (.move rfl) rfl rfl ?_
      refine RL.ev (.move rfl) rfl rfl ?_
      refine RL.ev (.rem rfl rfl (by omega)) rfl rfl ?_
      refine RL.ev (.move rfl) rfl rfl ?_
      refine RL.ev (.as (.bin rfl rfl rfl) (wi64 (y := p.tmod R.length + R.length) (by rfl) (by omega))) rfl rfl ?_
      refine RL.ev (.move rfl) rfl rfl ?_
      refine RL.ev (.as (v' := .int .i64 (q : Int)) (.rem rfl rfl (by omega)) (by rw [nmp.2.2, hq])) rfl rfl ?_
      refine RL.ev (.assign rfl) rfl rfl ?_
      refine RL.nil (RC.back ?_)
      refine RC.seq ?_
      refine RC.region rfl ?_
      refine RL.ev (.loadR ([.slice na1 A1.nodes.length nc1, .slice fa1 A1.free.length fc1]) sh28 rfl hb_12.row rfl) rfl rfl ?_
      refine RL.ev (.move rfl) rfl rfl ?_
      refine RL.ev (.move rfl) rfl rfl ?_
      refine RL.call rfl ok20 (c_oAt A1 na1 fa1 nc1 fc1 r1 hU1 (q : Int) (by unfold I64; omega) w13 (hA1.sub S1)) rfl rfl ?_
      rintro _ w20 ⟨s21, z, e3, rfl, _, hn⟩
      have S := S.trans s21
      have S1 := S1.trans s21
      have hb_12 := hb_12.sub s21
      obtain ⟨hz, rfl⟩ := (hn R hM1 hT1).1 (by omega)
      rw [Int.toNat_natCast, hy] at hz
      obtain rfl : y = z := Option.some.inj hz
      refine RL.ev (.move rfl) rfl rfl ?_
      refine RL.ev (.extract rfl rfl) rfl rfl ?_
      refine RL.ev (.extract rfl rfl) rfl rfl ?_
      refine RL.alloc ze42 rfl rfl (fun b_19 w_19 e_19 z_19 hb_19 s_19 => ?_)
      have ge_19 := S.le e_19
      have n_12__19 := hb_12.ne e_19
      have S := S.trans s_19
      have geS1_19 := S1.le e_19
      have S1 := S1.trans s_19
      have hb_12 := hb_12.sub s_19
      refine RL.store sh42 rfl rfl rfl hb_19 (by exact Nat.le_of_ble_eq_true rfl) (by rfl) rfl (fun w22 z22 hb_19 a22 => ?_)
      have S := S.upd a22 ge_19
      have S1 := S1.upd a22 geS1_19
      have hb_12 := hb_12.upd a22 n_12__19
      have hb_19 : Has w22 b_19 (y.cells) _ := hb_19.now (by kernel_rfl)
      refine RL.ev (.assign rfl) rfl rfl ?_
      refine RL.nil (RC.back ?_)
      refine RC.seq ?_
      refine RC.region rfl ?_
      refine RL.ev (.loadR ([.slice na1 A1.nodes.length nc1, .slice fa1 A1.free.length fc1]) sh28 rfl hb_12.row rfl) rfl rfl ?_
      refine RL.ev (.move rfl) rfl rfl ?_
      refine RL.ev (.field0 fo42_0 rfl) rfl rfl ?_
      refine RL.ev (.load1 sh2 rfl (hb_19.cell rfl)) rfl rfl ?_
      refine RL.call rfl ok15 (c_oRank A1 na1 fa1 nc1 fc1 r1 hU1 y.k w22 (hA1.sub S1)) rfl rfl ?_
      rintro _ w23 ⟨s24, n3, e4, rfl, _, hn⟩
      have S := S.trans s24
      have S1 := S1.trans s24
      have hb_12 := hb_12.sub s24
      have hb_19 := hb_19.sub s24
      obtain ⟨e5, rfl⟩ := hn R hM1 hT1
      have e5 : n3 = (cntLt R y.k : Int) := e5
      subst e5
      refine RL.ev (.move rfl) rfl rfl ?_
      refine RL.ev (.extract rfl rfl) rfl rfl ?_
      refine RL.ev (.extract rfl rfl) rfl rfl ?_
      refine RL.ev (.assign rfl) rfl rfl ?_
      refine RL.ev (.assign rfl) rfl rfl ?_
      refine RL.nil (RC.back ?_)
      refine RC.seq ?_
      refine RC.region rfl ?_
      refine RL.ev (.loadR ([.slice na1 A1.nodes.length nc1, .slice fa1 A1.free.length fc1]) sh28 rfl hb_12.row rfl) rfl rfl ?_
      refine RL.ev (.move rfl) rfl rfl ?_
      refine RL.ev (.field0 fo42_0 rfl) rfl rfl ?_
      refine RL.ev (.load1 sh2 rfl (hb_19.cell rfl)) rfl rfl ?_
      refine RL.call rfl ok21 (c_oFloor A1 na1 fa1 nc1 fc1 r1 hU1 y.k w23 (hA1.sub S1)) rfl rfl ?_
      rintro _ w25 ⟨s26, x5, e6, rfl, _, hn⟩
      have S := S.trans s26
      have S1 := S1.trans s26
      have hb_12 := hb_12.sub s26
      have hb_19 := hb_19.sub s26
      obtain ⟨rfl, rfl⟩ := hn R hM1 hT1
      rw [hfl]
      refine RL.ev (.move rfl) rfl rfl ?_
      refine RL.ev (.extract rfl rfl) rfl rfl ?_
      refine RL.ev (.extract rfl rfl) rfl rfl ?_
      refine RL.alloc ze42 rfl rfl (fun b_23 w_23 e_23 z_23 hb_23 s_23 => ?_)
      have ge_23 := S.le e_23
      have n_12__23 := hb_12.ne e_23
      have n_19__23 := hb_19.ne e_23
      have S := S.trans s_23
      have geS1_23 := S1.le e_23
      have S1 := S1.trans s_23
      have hb_12 := hb_12.sub s_23
      have hb_19 := hb_19.sub s_23
      refine RL.store sh42 rfl rfl rfl hb_23 (by exact Nat.le_of_ble_eq_true rfl) (by rfl) rfl (fun w27 z27 hb_23 a27 => ?_)
      have S := S.upd a27 ge_23
      have S1 := S1.upd a27 geS1_23
      have hb_12 := hb_12.upd a27 n_12__23
      have hb_19 := hb_19.upd a27 n_19__23
      have hb_23 : Has w27 b_23 (y.cells) _ := hb_23.now (by kernel_rfl)
      refine RL.ev (.assign rfl) rfl rfl ?_
      refine RL.nil (RC.back ?_)
      refine RC.seq ?_
      refine RC.region rfl ?_
      refine RL.ev (.loadR ([.slice na1 A1.nodes.length nc1, .slice fa1 A1.free.length fc1]) sh28 rfl hb_12.row rfl) rfl rfl ?_
      refine RL.ev (.move rfl) rfl rfl ?_
      refine RL.ev (.field0 fo42_0 rfl) rfl rfl ?_
      refine RL.ev (.load1 sh2 rfl (hb_19.cell rfl)) rfl rfl ?_
      refine RL.call rfl ok22 (c_oCeil A1 na1 fa1 nc1 fc1 r1 hU1 y.k w27 (hA1.sub S1)) rfl rfl ?_
      rintro _ w28 ⟨s29, x6, e7, rfl, _, hn⟩
      have S := S.trans s29
      have S1 := S1.trans s29
      have hb_12 := hb_12.sub s29
      have hb_19 := hb_19.sub s29
      have hb_23 := hb_23.sub s29
      obtain ⟨rfl, rfl⟩ := hn R hM1 hT1
      rw [hce]
      refine RL.ev (.move rfl) rfl rfl ?_
      refine RL.ev (.extract rfl rfl) rfl rfl ?_
      refine RL.ev (.extract rfl rfl) rfl rfl ?_
      refine RL.alloc ze42 rfl rfl (fun b_25 w_25 e_25 z_25 hb_25 s_25 => ?_)
      have ge_25 := S.le e_25
      have n_12__25 := hb_12.ne e_25
      have n_19__25 := hb_19.ne e_25
      have n_23__25 := hb_23.ne e_25
      have S := S.trans s_25
      have geS1_25 := S1.le e_25
      have S1 := S1.trans s_25
      have hb_12 := hb_12.sub s_25
      have hb_19 := hb_19.sub s_25
      have hb_23 := hb_23.sub s_25
      refine RL.store sh42 rfl rfl rfl hb_25 (by exact Nat.le_of_ble_eq_true rfl) (by rfl) rfl (fun w30 z30 hb_25 a30 => ?_)
      have S := S.upd a30 ge_25
      have S1 := S1.upd a30 geS1_25
      have hb_12 := hb_12.upd a30 n_12__25
      have hb_19 := hb_19.upd a30 n_19__25
      have hb_23 := hb_23.upd a30 n_23__25
      have hb_25 : Has w30 b_25 (y.cells) _ := hb_25.now (by kernel_rfl)
      refine RL.ev (.assign rfl) rfl rfl ?_
      refine RL.nil (RC.back ?_)
      refine RC.seq ?_
      refine RC.region rfl ?_
      refine RL.ev (.move rfl) rfl rfl ?_
      refine RL.ev (.as (v' := .bool true) (.bin rfl rfl rfl) (congrArg Value.bool (decide_eq_true (rfl)))) rfl rfl ?_
      refine RL.ev (.move rfl) rfl rfl ?_
      refine RL.ev (.move rfl) rfl rfl ?_
      refine RL.ev (.as (v' := .bool true) (.bin rfl rfl rfl) (congrArg Value.bool (decide_eq_true (rfl)))) rfl rfl ?_
      refine RL.ev (.pick_t rfl rfl) rfl rfl ?_
      refine RL.ev (.move rfl) rfl rfl ?_
      refine RL.ev (.move rfl) rfl rfl ?_
      refine RL.ev (.as (v' := .bool true) (.bin rfl rfl rfl) (congrArg Value.bool (decide_eq_true (rfl)))) rfl rfl ?_
      refine RL.ev (.pick_t rfl rfl) rfl rfl ?_
      refine RL.ev (.move rfl) rfl rfl ?_
      refine RL.ev (.move rfl) rfl rfl ?_
      refine RL.ev (.as (v' := .bool true) (.bin rfl rfl rfl) (congrArg Value.bool (decide_eq_true (rfl)))) rfl rfl ?_
      refine RL.ev (.pick_t rfl rfl) rfl rfl ?_
      refine RL.ev (.move rfl) rfl rfl ?_
      refine RL.ev (.move rfl) rfl rfl ?_
      refine RL.ev (.move rfl) rfl rfl ?_
      refine RL.ev (.as (v' := .bool true) (.bin rfl rfl rfl) (congrArg Value.bool (decide_eq_true (by omega)))) rfl rfl ?_
      refine RL.ev (.pick_t rfl rfl) rfl rfl ?_
      refine RL.ev (.move rfl) rfl rfl ?_
      refine RL.ev (.loadR (y.cells) sh42 rfl hb_23.row rfl) rfl rfl ?_
      refine RL.ev (.loadR (y.cells) sh42 rfl hb_19.row rfl) rfl rfl ?_
      refine RL.ev (.as (v' := .bool true) (.eqS (xs := y.cells) (ys := y.cells) fk42 eg42 sh42 rfl rfl rfl rfl rfl) (congrArg Value.bool (eqL_it y))) rfl rfl ?_
      refine RL.ev (.pick_t rfl rfl) rfl rfl ?_
      refine RL.ev (.move rfl) rfl rfl ?_
      refine RL.ev (.loadR (y.cells) sh42 rfl hb_25.row rfl) rfl rfl ?_
      refine RL.ev (.loadR (y.cells) sh42 rfl hb_19.row rfl) rfl rfl ?_
      refine RL.ev (.as (v' := .bool true) (.eqS (xs := y.cells) (ys := y.cells) fk42 eg42 sh42 rfl rfl rfl rfl rfl) (congrArg Value.bool (eqL_it y))) rfl rfl ?_
      refine RL.ev (.pick_t rfl rfl) rfl rfl ?_
      refine RL.ev (.assign rfl) rfl rfl ?_
      refine RL.nil (RC.back ?_)
      refine RC.done (rs := [.tmp 8]) (vs := [_]) rfl rfl ⟨rfl, trivial⟩ ?_
      -- end 2
      exact ⟨rfl, S⟩
end Go.Proofs.Ytekdjjppdijkmaa
