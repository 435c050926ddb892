/-
  The statement OrderAround.
-/
import Derived.Test.YtekdjjppdijkmaaOrderTellP
set_option linter.unusedVariables false
set_option linter.unusedSimpArgs false
namespace Go.Proofs.Ytekdjjppdijkmaa
open Go Go.XL


def mod100 (x : Int) : Int := x.tmod 100
theorem floor_yes {R : List It} {key e : Int} {x : It} (h : (e = 0 ∧ ∃ (i : Nat) (y : It), R[i]? = some y ∧ x = y ∧ y.k ≤ key ∧ cntLe R key = i + 1) ∨ (e = 3 ∧ x = it0 ∧ cntLe R key = 0)) (he : e = 0) : ∃ i : Nat, R[i]? = some x ∧ x.k ≤ key ∧ cntLe R key = i + 1 := by
  rcases h with ⟨_, i, y, h1, rfl, h2, h3⟩ | ⟨h1, _⟩
  · exact ⟨i, h1, h2, h3⟩
  · omega
theorem floor_no {R : List It} {key e : Int} {x : It} (h : (e = 0 ∧ ∃ (i : Nat) (y : It), R[i]? = some y ∧ x = y ∧ y.k ≤ key ∧ cntLe R key = i + 1) ∨ (e = 3 ∧ x = it0 ∧ cntLe R key = 0)) (he : ¬ e = 0) : cntLe R key = 0 := h.elim (fun h => absurd h.1 he) (fun h => h.2.2)
theorem ceil_yes {R : List It} {key e : Int} {x : It} (h : (e = 0 ∧ ∃ y : It, R[cntLt R key]? = some y ∧ x = y ∧ key ≤ y.k) ∨ (e = 3 ∧ x = it0 ∧ cntLt R key = R.length)) (he : e = 0) : R[cntLt R key]? = some x ∧ key ≤ x.k := by
  rcases h with ⟨_, y, h1, rfl, h2⟩ | ⟨h1, _⟩
  · exact ⟨h1, h2⟩
  · omega
theorem ceil_no {R : List It} {key e : Int} {x : It} (h : (e = 0 ∧ ∃ y : It, R[cntLt R key]? = some y ∧ x = y ∧ key ≤ y.k) ∨ (e = 3 ∧ x = it0 ∧ cntLt R key = R.length)) (he : ¬ e = 0) : cntLt R key = R.length := h.elim (fun h => absurd h.1 he) (fun h => h.2.2)
theorem around {R : List It} {key : Int} {x z : It} {i : Nat} (hs : Srt R) (hi : R[i]? = some x) (hn : cntLe R key = i + 1) (hz : R[cntLt R key]? = some z) (h1 : x.k ≤ key) (h2 : key ≤ z.k) (hne : ¬ x.k = z.k) : x.k < key ∧ key < z.k ∧ cntLt R z.k = cntLt R x.k + 1 := by
  have hc := cntLe_lt hs key
  have e1 := cntLt_at hs hi
  have e2 := cntLt_at hs hz
  by_cases q : z.k = key
  · have := hc.1 z hz q
    have hic : i = cntLt R key := by omega
    rw [hic, hz] at hi
    cases hi
    exact absurd rfl hne
  · have h3 := hc.2 (fun y hy => by rw [hz] at hy; cases hy; exact q)
    refine ⟨?_, by omega, by omega⟩
    refine Classical.byContradiction fun hx => ?_
    have ex : x.k = key := by omega
    rw [ex] at e1
    omega
set_option maxHeartbeats 1000000 in
theorem law_OrderAround (w : World) (l : List Int) (pa : Option Addr) (pc : Nat) (hlc : l.length ≤ pc) (hcm : pc ≤ maxLen) (hs : Sl w pa 1 (l.map fun x => [i6 x])) (hli : ∀ x ∈ l, I64 x) (key : Int) (wk : (Lit.int .i64 key).wf = true) :
    FC Try.prog 6 [.slice pa l.length pc, .int .i64 key] w (Val (.bool true) w) := by
  have hll : l.length ≤ 9223372036854775807 := Nat.le_trans hlc (Nat.le_trans hcm (by decide))
  have hk := wfI wk
  refine FC.intro Try.func6 rfl Try.ntmps6 rfl ?_
  have S := Sub.refl w
  refine RC.seq ?_
  refine RC.region rfl ?_
  refine RL.ev (.assign rfl) rfl rfl ?_
  refine RL.nil (RC.back ?_)
  refine RC.seq ?_
  refine RC.region rfl ?_
  refine RL.ev (.assign rfl) rfl rfl ?_
  refine RL.nil (RC.back ?_)
  refine RC.seq ?_
  refine RC.seq ?_
  refine RC.region rfl ?_
  refine RL.ev (.move rfl) rfl rfl ?_
  refine RL.ev (.len sl22 rfl) rfl rfl ?_
  refine RL.ev (.move rfl) rfl rfl ?_
  refine RL.nil (RC.back ?_)
  refine RC.block ?_
  refine RC.loop (α := Nat × Option Addr × Nat × Nat) (fun x => [(1, .int .i64 key), (5, .slice x.2.1 x.2.2.1 x.2.2.2), (20, .slice pa l.length pc), (21, .int .i64 (l.length : Int)), (22, .int .i64 (x.1 : Int))]) (fun x w1 => (x.1 ≤ l.length ∧ x.2.2.1 = (rowN mod100 idM 30 l x.1).length ∧ (rowN mod100 idM 30 l x.1).length ≤ x.2.2.2) ∧ Sl w1 x.2.1 2 ((rowN mod100 idM 30 l x.1).map It.cells) ∧ Sub w w1) (fun x => l.length - x.1) (0, none, 0, 0) (keep_of (by repeat (first | exact trivial | refine And.intro rfl ?_))) (⟨⟨Nat.zero_le _, rfl, Nat.zero_le _⟩, Sl.nil _ _ _, S⟩) (fun x w1 hJ => ?_)
  obtain ⟨i, ra, rm, rc⟩ := x; obtain ⟨⟨hi, hm, hc⟩, hr, S⟩ := hJ; simp only [] at hi hm hc hr; have hrl := rowN_len mod100 idM 30 l i
  refine RC.seq ?_
  refine RC.region rfl ?_
  refine RL.ev (.bin rfl rfl rfl) rfl rfl ?_
  refine RL.nil (RC.back ?_)
  refine RC.seq ?_
  refine RC.cond_dec rfl (fun h2 => ?_) (fun h2 => ?_)
  ·
    obtain ⟨x, hx⟩ := getSome (l := l) (i := i) (by omega)
    have hxi : -9223372036854775808 ≤ x ∧ x ≤ 9223372036854775807 := hli x (List.mem_of_getElem? hx)
    have nmx := norm_mod x 100 (by decide)
    refine RC.skip (RC.back ?_)
    refine RC.seq ?_
    refine RC.block ?_
    refine RC.seq ?_
    refine RC.region rfl ?_
    refine RL.ev (.move rfl) rfl rfl ?_
    refine RL.ev (.indexS sl22 rfl rfl (by omega) (hs.is (i := 0) (by simp only [List.length_map]; omega))) rfl rfl ?_
    refine RL.ev (.load1 sh2 rfl ((hs.sub S).one (enc := i6) (i := i) hx)) rfl rfl ?_
    refine RL.ev (.assign rfl) rfl rfl ?_
    refine RL.ev (.assign rfl) rfl rfl ?_
    refine RL.nil (RC.back ?_)
    refine RC.seq ?_
    refine RC.region rfl ?_
    refine RL.ev (.move rfl) rfl rfl ?_
    refine RL.ev (.bin rfl rfl rfl) rfl rfl ?_
    refine RL.nil (RC.back ?_)
    refine RC.cond_dec rfl (fun h3 => ?_) (fun h3 => ?_)
    ·
      have hlt : i < 30 := (by omega)
      refine RC.region rfl ?_
      refine RL.ev (.move rfl) rfl rfl ?_
      refine RL.ev (.move rfl) rfl rfl ?_
      refine RL.ev (.rem rfl rfl (by decide)) rfl rfl ?_
      refine RL.ev (.move rfl) rfl rfl ?_
      refine RL.call rfl ok13 (c_refPut (rowN mod100 idM 30 l i) ra rc rm hm (x.tmod 100) (i : Int) w1 hr (by omega)) rfl rfl ?_
      rintro vr w4 ⟨a1, c1, hvr, o1, s5⟩
      have S := S.trans s5
      rw [← show rowN mod100 idM 30 l (i + 1) = putR (rowN mod100 idM 30 l i) (x.tmod 100) (i : Int) from rowN_put hx hlt] at hvr o1
      subst hvr
      have hc1 : (rowN mod100 idM 30 l (i + 1)).length ≤ c1 := (by obtain ⟨_, c', e, h⟩ := o1.form; cases e; rw [List.length_map] at h; exact h)
      refine RL.ev (.assign rfl) rfl rfl ?_
      refine RL.nil (RC.back ?_)
      refine RC.region rfl ?_
      refine RL.ev (.as (.bin rfl rfl rfl) (wi64 (y := ((i + 1 : Nat) : Int)) (by omega) (by omega))) rfl rfl ?_
      refine RL.ev (.move rfl) rfl rfl ?_
      exact RL.nil (fun a ka => ⟨(i + 1, a1, _, c1), ⟨⟨by omega, List.length_map _, hc1⟩, o1.sl.1, S⟩, by omega, ka.keep (keep_of (by repeat (first | exact trivial | refine And.intro rfl ?_)))⟩)
    ·
      have hge : ¬ i < 30 := (by omega)
      rw [← rowN_stay hge] at hm hc hr
      refine RC.skip (RC.back ?_)
      refine RC.region rfl ?_
      refine RL.ev (.as (.bin rfl rfl rfl) (wi64 (y := ((i + 1 : Nat) : Int)) (by omega) (by omega))) rfl rfl ?_
      refine RL.ev (.move rfl) rfl rfl ?_
      exact RL.nil (fun a ka => ⟨(i + 1, ra, rm, rc), ⟨⟨by omega, hm, hc⟩, hr, S⟩, by omega, ka.keep (keep_of (by repeat (first | exact trivial | refine And.intro rfl ?_)))⟩)
  ·
    obtain rfl : i = l.length := (by omega)
    have hRs := rowN_srt mod100 idM 30 l l.length
    have hRok := rowN_all (f := mod100) (g := idM) (most := 30) (l := l) (P := It.ok) (fun x hx i hi => ⟨by have := norm_mod x 100 (by decide); unfold I64; show _ ≤ x.tmod 100 ∧ x.tmod 100 ≤ _; omega, by unfold I64; show _ ≤ (i : Int) ∧ (i : Int) ≤ _; omega⟩) l.length (Nat.le_refl _)
    obtain ⟨R, hR⟩ : ∃ R, rowN mod100 idM 30 l l.length = R := ⟨_, rfl⟩
    rw [hR] at hm hc hr hrl hRs hRok
    have hR30 := hrl.1
    subst hm
    obtain ⟨W0, S0, hr⟩ : ∃ W, Sub W w1 ∧ Sl W ra 2 (R.map It.cells) := ⟨_, Sub.refl _, hr⟩
    refine RC.exit rfl (RC.back ?_)
    refine RC.seq ?_
    refine RC.region rfl ?_
    refine RL.ev (.move rfl) rfl rfl ?_
    refine RL.ev (.len sl23 rfl) rfl rfl ?_
    refine RL.ev (.as (.bin rfl rfl rfl) (wi64 (y := ((R.length + 1 : Nat) : Int)) (by show (R.length : Int) + 1 = _; omega) (by omega))) rfl rfl ?_
    refine RL.ev (.move rfl) rfl rfl ?_
    refine RL.call rfl ok14 (c_build (R.length + 1) R ra rc R.length rfl hc hRs hRok (by omega) (by omega) (by omega) w1 (hr.sub S0)) rfl rfl ?_
    rintro _ w6 ⟨na1, fa1, nc1, fc1, rfl, hn1, hf1, hi1, s7⟩
    have hA1 := (hi1 (fun _ => False) (fun _ h => h.elim)).now
    have S := S.trans s7
    have S0 := S0.trans s7
    obtain ⟨A1, hAe1⟩ : ∃ A, buildA (R.length + 1) R = A := ⟨_, rfl⟩
    obtain ⟨r1, hre1⟩ : ∃ r, buildR (R.length + 1) R = r := ⟨_, rfl⟩
    have hB1 := build_ok (size := (R.length + 1)) hRs (by omega) (by omega) (by omega)
    have hM1 := build_map (size := (R.length + 1)) hRs (by omega) (by omega) (by omega) (by omega)
    have hT1 := hB1.isT
    have hU1 := hB1.u
    rw [hAe1, hre1] at hT1 hM1
    rw [hre1] at hU1
    rw [hAe1] at hA1
    rw [hAe1, hre1]
    obtain ⟨W1, S1, hA1⟩ : ∃ W, Sub W w6 ∧ ArR W na1 fa1 A1 := ⟨_, Sub.refl _, hA1⟩
    refine RL.ev (.move rfl) rfl rfl ?_
    refine RL.ev (.extract rfl rfl) rfl rfl ?_
    refine RL.ev (.extract rfl rfl) rfl rfl ?_
    refine RL.alloc ze28 rfl rfl (fun b_8 w_8 e_8 z_8 hb_8 s_8 => ?_)
    have ge_8 := S.le e_8
    have S := S.trans s_8
    have geS0_8 := S0.le e_8
    have S0 := S0.trans s_8
    have geS1_8 := S1.le e_8
    have S1 := S1.trans s_8
    refine RL.store sh28 rfl rfl rfl hb_8 (by exact Nat.le_of_ble_eq_true rfl) (by rfl) rfl (fun w8 z8 hb_8 a8 => ?_)
    have S := S.upd a8 ge_8
    have S0 := S0.upd a8 geS0_8
    have S1 := S1.upd a8 geS1_8
    have hb_8 : Has w8 b_8 ([.slice na1 A1.nodes.length nc1, .slice fa1 A1.free.length fc1]) _ := hb_8.now (by kernel_rfl)
    refine RL.ev (.assign rfl) rfl rfl ?_
    refine RL.nil (RC.back ?_)
    refine RC.seq ?_
    refine RC.region rfl ?_
    refine RL.ev (.loadR ([.slice na1 A1.nodes.length nc1, .slice fa1 A1.free.length fc1]) sh28 rfl hb_8.row rfl) rfl rfl ?_
    refine RL.ev (.move rfl) rfl rfl ?_
    refine RL.ev (.move rfl) rfl rfl ?_
    refine RL.call rfl ok21 (c_oFloor A1 na1 fa1 nc1 fc1 r1 hU1 key w8 (hA1.sub S1)) rfl rfl ?_
    rintro _ w9 ⟨s10, x, e, rfl, _, hn⟩
    have S := S.trans s10
    have S0 := S0.trans s10
    have S1 := S1.trans s10
    have hb_8 := hb_8.sub s10
    obtain ⟨e5, e6⟩ := hn R hM1 hT1
    have hfc := floor_cases hRs key
    rw [← e5, ← e6] at hfc
    refine RL.ev (.move rfl) rfl rfl ?_
    refine RL.ev (.extract rfl rfl) rfl rfl ?_
    refine RL.ev (.extract rfl rfl) rfl rfl ?_
    refine RL.alloc ze42 rfl rfl (fun b_10 w_10 e_10 z_10 hb_10 s_10 => ?_)
    have ge_10 := S.le e_10
    have n_8__10 := hb_8.ne e_10
    have S := S.trans s_10
    have geS0_10 := S0.le e_10
    have S0 := S0.trans s_10
    have geS1_10 := S1.le e_10
    have S1 := S1.trans s_10
    have hb_8 := hb_8.sub s_10
    refine RL.store sh42 rfl rfl rfl hb_10 (by exact Nat.le_of_ble_eq_true rfl) (by rfl) rfl (fun w11 z11 hb_10 a11 => ?_)
    have S := S.upd a11 ge_10
    have S0 := S0.upd a11 geS0_10
    have S1 := S1.upd a11 geS1_10
    have hb_8 := hb_8.upd a11 n_8__10
    have hb_10 : Has w11 b_10 (x.cells) _ := hb_10.now (by kernel_rfl)
    refine RL.ev (.assign rfl) rfl rfl ?_
    refine RL.nil (RC.back ?_)
    refine RC.seq ?_
    refine RC.region rfl ?_
    refine RL.ev (.loadR ([.slice na1 A1.nodes.length nc1, .slice fa1 A1.free.length fc1]) sh28 rfl hb_8.row rfl) rfl rfl ?_
    refine RL.ev (.move rfl) rfl rfl ?_
    refine RL.ev (.move rfl) rfl rfl ?_
    refine RL.call rfl ok22 (c_oCeil A1 na1 fa1 nc1 fc1 r1 hU1 key w11 (hA1.sub S1)) rfl rfl ?_
    rintro _ w12 ⟨s13, z, e2, rfl, _, hn⟩
    have S := S.trans s13
    have S0 := S0.trans s13
    have S1 := S1.trans s13
    have hb_8 := hb_8.sub s13
    have hb_10 := hb_10.sub s13
    obtain ⟨e5, e6⟩ := hn R hM1 hT1
    have hcc := ceil_cases hRs key
    rw [← e5, ← e6] at hcc
    refine RL.ev (.move rfl) rfl rfl ?_
    refine RL.ev (.extract rfl rfl) rfl rfl ?_
    refine RL.ev (.extract rfl rfl) rfl rfl ?_
    refine RL.alloc ze42 rfl rfl (fun b_12 w_12 e_12 z_12 hb_12 s_12 => ?_)
    have ge_12 := S.le e_12
    have n_8__12 := hb_8.ne e_12
    have n_10__12 := hb_10.ne e_12
    have S := S.trans s_12
    have geS0_12 := S0.le e_12
    have S0 := S0.trans s_12
    have geS1_12 := S1.le e_12
    have S1 := S1.trans s_12
    have hb_8 := hb_8.sub s_12
    have hb_10 := hb_10.sub s_12
    refine RL.store sh42 rfl rfl rfl hb_12 (by exact Nat.le_of_ble_eq_true rfl) (by rfl) rfl (fun w14 z14 hb_12 a14 => ?_)
    have S := S.upd a14 ge_12
    have S0 := S0.upd a14 geS0_12
    have S1 := S1.upd a14 geS1_12
    have hb_8 := hb_8.upd a14 n_8__12
    have hb_10 := hb_10.upd a14 n_10__12
    have hb_12 : Has w14 b_12 (z.cells) _ := hb_12.now (by kernel_rfl)
    refine RL.ev (.assign rfl) rfl rfl ?_
    refine RL.nil (RC.back ?_)
    refine RC.seq ?_
    refine RC.region rfl ?_
    refine RL.ev (.loadR ([.slice na1 A1.nodes.length nc1, .slice fa1 A1.free.length fc1]) sh28 rfl hb_8.row rfl) rfl rfl ?_
    refine RL.ev (.move rfl) rfl rfl ?_
    refine RL.call rfl ok16 (c_oSize A1 na1 fa1 nc1 fc1 r1 hU1 w14 (hA1.sub S1)) rfl rfl ?_
    rintro _ w15 ⟨s16, n, e3, rfl, _, hn⟩
    have S := S.trans s16
    have S0 := S0.trans s16
    have S1 := S1.trans s16
    have hb_8 := hb_8.sub s16
    have hb_10 := hb_10.sub s16
    have hb_12 := hb_12.sub s16
    obtain ⟨rfl, rfl⟩ := hn R hM1 hT1
    have hlk := cntLt_le R key
    have hlm := cntLt_mono R (show key ≤ key + 1 by omega)
    have hls := cntLe_succ R key
    refine RL.ev (.move rfl) rfl rfl ?_
    refine RL.ev (.extract rfl rfl) rfl rfl ?_
    refine RL.ev (.extract rfl rfl) rfl rfl ?_
    refine RL.ev (.assign rfl) rfl rfl ?_
    refine RL.ev (.assign rfl) rfl rfl ?_
    refine RL.nil (RC.back ?_)
    refine RC.seq ?_
    refine RC.seq ?_
    refine RC.region rfl ?_
    refine RL.ev (.move rfl) rfl rfl ?_
    refine RL.ev (.as (v' := .bool false) (.bin rfl rfl rfl) (congrArg Value.bool (decide_eq_false (fun h => h rfl)))) rfl rfl ?_
    refine RL.ev (.move rfl) rfl rfl ?_
    refine RL.ev (.move rfl) rfl rfl ?_
    refine RL.ev (.move rfl) rfl rfl ?_
    refine RL.ev (.len sl23 rfl) rfl rfl ?_
    refine RL.ev (.as (v' := .bool false) (.bin rfl rfl rfl) (congrArg Value.bool (decide_eq_false (fun h => h rfl)))) rfl rfl ?_
    refine RL.ev (.pick_f rfl rfl) rfl rfl ?_
    refine RL.ev (.move rfl) rfl rfl ?_
    refine RL.call rfl ok18 (c_alive7 w15) rfl rfl ?_
    rintro _ w17 ⟨rfl, s18⟩
    have S := S.trans s18
    have S0 := S0.trans s18
    have S1 := S1.trans s18
    have hb_8 := hb_8.sub s18
    have hb_10 := hb_10.sub s18
    have hb_12 := hb_12.sub s18
    refine RL.ev (.not rfl) rfl rfl ?_
    refine RL.ev (.pick_f rfl rfl) rfl rfl ?_
    refine RL.nil (RC.back ?_)
    refine RC.cond_f rfl ?_
    refine RC.skip (RC.back ?_)
    refine RC.cutx (α := Unit) (fun _ => [(1, .int .i64 key), (8, .pointer (some ⟨b_8, 0, none⟩)), (9, .int .u64 r1), (10, .pointer (some ⟨b_10, 0, none⟩)), (11, .int .i64 e), (12, .pointer (some ⟨b_12, 0, none⟩)), (13, .int .i64 e2)]) (fun _ w19 => Has w19 b_8 [.slice na1 A1.nodes.length nc1, .slice fa1 A1.free.length fc1] 28 ∧ Has w19 b_10 x.cells 42 ∧ Has w19 b_12 z.cells 42 ∧ Sub W1 w19 ∧ Sub w w19) ?_ (fun _ w19 hJ => ?_)
    ·
      refine RC.seq ?_
      refine RC.region rfl ?_
      refine RL.ev (.move rfl) rfl rfl ?_
      refine RL.ev (.bin rfl rfl rfl) rfl rfl ?_
      refine RL.ev (.move rfl) rfl rfl ?_
      refine RL.split 77 rfl (fun h20 => ?_) (fun h20 => ?_)
      ·
        have he0 := h20
        obtain ⟨fi, hfi, hfk, hfn⟩ := floor_yes hfc he0
        refine RL.ev (.field0 fo42_0 rfl) rfl rfl ?_
        refine RL.ev (.load1 sh2 rfl (hb_10.cell rfl)) rfl rfl ?_
        refine RL.ev (.move rfl) rfl rfl ?_
        refine RL.ev (.as (v' := .bool false) (.bin rfl rfl rfl) (congrArg Value.bool (decide_eq_false (by omega)))) rfl rfl ?_
        refine RL.ev (.pick_t rfl rfl) rfl rfl ?_
        refine RL.ev (.move rfl) rfl rfl ?_
        refine RL.ev (.move rfl) rfl rfl ?_
        refine RL.ev (.bin rfl rfl rfl) rfl rfl ?_
        refine RL.ev (.move rfl) rfl rfl ?_
        refine RL.split 86 rfl (fun h21 => ?_) (fun h21 => ?_)
        ·
          have hg0 := h21
          obtain ⟨hcz, hck⟩ := ceil_yes hcc hg0
          refine RL.ev (.field0 fo42_0 rfl) rfl rfl ?_
          refine RL.ev (.load1 sh2 rfl (hb_12.cell rfl)) rfl rfl ?_
          refine RL.ev (.move rfl) rfl rfl ?_
          refine RL.ev (.as (v' := .bool false) (.bin rfl rfl rfl) (congrArg Value.bool (decide_eq_false (by omega)))) rfl rfl ?_
          refine RL.ev (.pick_t rfl rfl) rfl rfl ?_
          refine RL.ev (.pick_f rfl rfl) rfl rfl ?_
          refine RL.ev (.move rfl) rfl rfl ?_
          refine RL.ev (.move rfl) rfl rfl ?_
          refine RL.ev (.bin rfl rfl rfl) rfl rfl ?_
          refine RL.ev (.move rfl) rfl rfl ?_
          refine RL.split 96 rfl (fun h22 => ?_) (fun h22 => ?_)
          ·
            refine RL.ev (.move rfl) rfl rfl ?_
            refine RL.ev (.as (v' := .bool false) (.bin rfl rfl rfl) (congrArg Value.bool (decide_eq_false (fun h => h he0)))) rfl rfl ?_
            refine RL.ev (.pick_t rfl rfl) rfl rfl ?_
            refine RL.ev (.move rfl) rfl rfl ?_
            refine RL.off rfl rfl ?_
            refine RL.off rfl rfl ?_
            refine RL.ev (.pick_f rfl rfl) rfl rfl ?_
            refine RL.ev (.pick_f rfl rfl) rfl rfl ?_
            refine RL.nil (RC.back ?_)
            refine RC.cond_f rfl ?_
            exact RC.skip (fun a ka => ⟨(), ⟨hb_8, hb_10, hb_12, S1, S⟩, ka.keep (keep_of (by repeat (first | exact trivial | refine And.intro rfl ?_)))⟩)
          ·
            refine RL.off rfl rfl ?_
            refine RL.off rfl rfl ?_
            refine RL.ev (.pick_f rfl rfl) rfl rfl ?_
            refine RL.ev (.move rfl) rfl rfl ?_
            refine RL.off rfl rfl ?_
            refine RL.off rfl rfl ?_
            refine RL.ev (.pick_f rfl rfl) rfl rfl ?_
            refine RL.ev (.pick_f rfl rfl) rfl rfl ?_
            refine RL.nil (RC.back ?_)
            refine RC.cond_f rfl ?_
            exact RC.skip (fun a ka => ⟨(), ⟨hb_8, hb_10, hb_12, S1, S⟩, ka.keep (keep_of (by repeat (first | exact trivial | refine And.intro rfl ?_)))⟩)
        ·
          have hg0 := h21
          have hc0 := ceil_no hcc hg0
          refine RL.off rfl rfl ?_
          refine RL.off rfl rfl ?_
          refine RL.off rfl rfl ?_
          refine RL.off rfl rfl ?_
          refine RL.ev (.pick_f rfl rfl) rfl rfl ?_
          refine RL.ev (.pick_f rfl rfl) rfl rfl ?_
          refine RL.ev (.move rfl) rfl rfl ?_
          refine RL.ev (.move rfl) rfl rfl ?_
          refine RL.ev (.bin rfl rfl rfl) rfl rfl ?_
          refine RL.ev (.move rfl) rfl rfl ?_
          refine RL.split 96 rfl (fun h23 => ?_) (fun h23 => ?_)
          ·
            refine RL.ev (.move rfl) rfl rfl ?_
            refine RL.ev (.as (v' := .bool false) (.bin rfl rfl rfl) (congrArg Value.bool (decide_eq_false (fun h => h he0)))) rfl rfl ?_
            refine RL.ev (.pick_t rfl rfl) rfl rfl ?_
            refine RL.ev (.move rfl) rfl rfl ?_
            refine RL.off rfl rfl ?_
            refine RL.off rfl rfl ?_
            refine RL.ev (.pick_f rfl rfl) rfl rfl ?_
            refine RL.ev (.pick_f rfl rfl) rfl rfl ?_
            refine RL.nil (RC.back ?_)
            refine RC.cond_f rfl ?_
            exact RC.skip (fun a ka => ⟨(), ⟨hb_8, hb_10, hb_12, S1, S⟩, ka.keep (keep_of (by repeat (first | exact trivial | refine And.intro rfl ?_)))⟩)
          ·
            refine RL.off rfl rfl ?_
            refine RL.off rfl rfl ?_
            refine RL.ev (.pick_f rfl rfl) rfl rfl ?_
            refine RL.ev (.move rfl) rfl rfl ?_
            refine RL.off rfl rfl ?_
            refine RL.off rfl rfl ?_
            refine RL.ev (.pick_f rfl rfl) rfl rfl ?_
            refine RL.ev (.pick_f rfl rfl) rfl rfl ?_
            refine RL.nil (RC.back ?_)
            refine RC.cond_f rfl ?_
            exact RC.skip (fun a ka => ⟨(), ⟨hb_8, hb_10, hb_12, S1, S⟩, ka.keep (keep_of (by repeat (first | exact trivial | refine And.intro rfl ?_)))⟩)
      ·
        have he0 := h20
        have hf0 := floor_no hfc he0
        refine RL.off rfl rfl ?_
        refine RL.off rfl rfl ?_
        refine RL.off rfl rfl ?_
        refine RL.off rfl rfl ?_
        refine RL.ev (.pick_f rfl rfl) rfl rfl ?_
        refine RL.ev (.move rfl) rfl rfl ?_
        refine RL.ev (.move rfl) rfl rfl ?_
        refine RL.ev (.bin rfl rfl rfl) rfl rfl ?_
        refine RL.ev (.move rfl) rfl rfl ?_
        refine RL.split 86 rfl (fun h24 => ?_) (fun h24 => ?_)
        ·
          have hg0 := h24
          obtain ⟨hcz, hck⟩ := ceil_yes hcc hg0
          refine RL.ev (.field0 fo42_0 rfl) rfl rfl ?_
          refine RL.ev (.load1 sh2 rfl (hb_12.cell rfl)) rfl rfl ?_
          refine RL.ev (.move rfl) rfl rfl ?_
          refine RL.ev (.as (v' := .bool false) (.bin rfl rfl rfl) (congrArg Value.bool (decide_eq_false (by omega)))) rfl rfl ?_
          refine RL.ev (.pick_t rfl rfl) rfl rfl ?_
          refine RL.ev (.pick_f rfl rfl) rfl rfl ?_
          refine RL.ev (.move rfl) rfl rfl ?_
          refine RL.ev (.move rfl) rfl rfl ?_
          refine RL.ev (.bin rfl rfl rfl) rfl rfl ?_
          refine RL.ev (.move rfl) rfl rfl ?_
          refine RL.split 96 rfl (fun h25 => ?_) (fun h25 => ?_)
          ·
            refine RL.ev (.move rfl) rfl rfl ?_
            refine RL.ev (.as (v' := .bool true) (.bin rfl rfl rfl) (congrArg Value.bool (decide_eq_true (he0)))) rfl rfl ?_
            refine RL.ev (.pick_t rfl rfl) rfl rfl ?_
            refine RL.ev (.move rfl) rfl rfl ?_
            refine RL.ev (.move rfl) rfl rfl ?_
            refine RL.ev (.as (v' := .bool false) (.bin rfl rfl rfl) (congrArg Value.bool (decide_eq_false (fun h => h hg0)))) rfl rfl ?_
            refine RL.ev (.pick_t rfl rfl) rfl rfl ?_
            refine RL.ev (.pick_f rfl rfl) rfl rfl ?_
            refine RL.nil (RC.back ?_)
            refine RC.cond_f rfl ?_
            exact RC.skip (fun a ka => ⟨(), ⟨hb_8, hb_10, hb_12, S1, S⟩, ka.keep (keep_of (by repeat (first | exact trivial | refine And.intro rfl ?_)))⟩)
          ·
            refine RL.off rfl rfl ?_
            refine RL.off rfl rfl ?_
            refine RL.ev (.pick_f rfl rfl) rfl rfl ?_
            refine RL.ev (.move rfl) rfl rfl ?_
            refine RL.off rfl rfl ?_
            refine RL.off rfl rfl ?_
            refine RL.ev (.pick_f rfl rfl) rfl rfl ?_
            refine RL.ev (.pick_f rfl rfl) rfl rfl ?_
            refine RL.nil (RC.back ?_)
            refine RC.cond_f rfl ?_
            exact RC.skip (fun a ka => ⟨(), ⟨hb_8, hb_10, hb_12, S1, S⟩, ka.keep (keep_of (by repeat (first | exact trivial | refine And.intro rfl ?_)))⟩)
        ·
          have hg0 := h24
          have hc0 := ceil_no hcc hg0
          refine RL.off rfl rfl ?_
          refine RL.off rfl rfl ?_
          refine RL.off rfl rfl ?_
          refine RL.off rfl rfl ?_
          refine RL.ev (.pick_f rfl rfl) rfl rfl ?_
          refine RL.ev (.pick_f rfl rfl) rfl rfl ?_
          refine RL.ev (.move rfl) rfl rfl ?_
          refine RL.ev (.move rfl) rfl rfl ?_
          refine RL.ev (.bin rfl rfl rfl) rfl rfl ?_
          refine RL.ev (.move rfl) rfl rfl ?_
          refine RL.split 96 rfl (fun h26 => ?_) (fun h26 => ?_)
          ·
            refine RL.ev (.move rfl) rfl rfl ?_
            refine RL.ev (.as (v' := .bool true) (.bin rfl rfl rfl) (congrArg Value.bool (decide_eq_true (he0)))) rfl rfl ?_
            refine RL.ev (.pick_t rfl rfl) rfl rfl ?_
            refine RL.ev (.move rfl) rfl rfl ?_
            refine RL.ev (.move rfl) rfl rfl ?_
            refine RL.ev (.as (v' := .bool false) (.bin rfl rfl rfl) (congrArg Value.bool (decide_eq_false (by omega)))) rfl rfl ?_
            refine RL.ev (.pick_t rfl rfl) rfl rfl ?_
            refine RL.ev (.pick_f rfl rfl) rfl rfl ?_
            refine RL.nil (RC.back ?_)
            refine RC.cond_f rfl ?_
            exact RC.skip (fun a ka => ⟨(), ⟨hb_8, hb_10, hb_12, S1, S⟩, ka.keep (keep_of (by repeat (first | exact trivial | refine And.intro rfl ?_)))⟩)
          ·
            refine RL.off rfl rfl ?_
            refine RL.off rfl rfl ?_
            refine RL.ev (.pick_f rfl rfl) rfl rfl ?_
            refine RL.ev (.move rfl) rfl rfl ?_
            refine RL.off rfl rfl ?_
            refine RL.off rfl rfl ?_
            refine RL.ev (.pick_f rfl rfl) rfl rfl ?_
            refine RL.ev (.pick_f rfl rfl) rfl rfl ?_
            refine RL.nil (RC.back ?_)
            refine RC.cond_f rfl ?_
            exact RC.skip (fun a ka => ⟨(), ⟨hb_8, hb_10, hb_12, S1, S⟩, ka.keep (keep_of (by repeat (first | exact trivial | refine And.intro rfl ?_)))⟩)
    obtain ⟨hb_8, hb_10, hb_12, S1, S⟩ := hJ
    refine RC.seq ?_
    refine RC.seq ?_
    refine RC.region rfl ?_
    refine RL.ev (.move rfl) rfl rfl ?_
    refine RL.ev (.bin rfl rfl rfl) rfl rfl ?_
    refine RL.ev (.move rfl) rfl rfl ?_
    refine RL.split 107 rfl (fun h27 => ?_) (fun h27 => ?_)
    ·
      refine RL.off rfl rfl ?_
      refine RL.off rfl rfl ?_
      refine RL.ev (.pick_t rfl rfl) rfl rfl ?_
      refine RL.nil (RC.back ?_)
      refine RC.cond_t rfl ?_
      refine RC.seq ?_
      refine RC.region rfl ?_
      refine RL.ev (.assign rfl) rfl rfl ?_
      refine RL.nil (RC.back ?_)
      refine RC.done (rs := [.tmp 4]) (vs := [_]) rfl rfl ⟨rfl, trivial⟩ ?_
      -- end 1
      exact ⟨rfl, S⟩
    ·
      have he0 : e = 0 := Decidable.not_not.1 h27
      refine RL.ev (.move rfl) rfl rfl ?_
      refine RL.ev (.bin rfl rfl rfl) rfl rfl ?_
      refine RL.ev (.pick_f rfl rfl) rfl rfl ?_
      refine RL.nil (RC.back ?_)
      refine RC.cond_dec rfl (fun h28 => ?_) (fun h28 => ?_)
      ·
        refine RC.seq ?_
        refine RC.region rfl ?_
        refine RL.ev (.assign rfl) rfl rfl ?_
        refine RL.nil (RC.back ?_)
        refine RC.done (rs := [.tmp 4]) (vs := [_]) rfl rfl ⟨rfl, trivial⟩ ?_
        -- end 2
        exact ⟨rfl, S⟩
      ·
        have hg0 : e2 = 0 := Decidable.not_not.1 h28
        obtain ⟨fi, hfi, hfk, hfn⟩ := floor_yes hfc he0
        obtain ⟨hcz, hck⟩ := ceil_yes hcc hg0
        have hc1 := cntLt_at hRs hfi
        have hc2 := cntLt_at hRs hcz
        have hfil := lt_of_get hfi
        refine RC.skip (RC.back ?_)
        refine RC.seq ?_
        refine RC.region rfl ?_
        refine RL.ev (.loadR ([.slice na1 A1.nodes.length nc1, .slice fa1 A1.free.length fc1]) sh28 rfl hb_8.row rfl) rfl rfl ?_
        refine RL.ev (.move rfl) rfl rfl ?_
        refine RL.ev (.field0 fo42_0 rfl) rfl rfl ?_
        refine RL.ev (.load1 sh2 rfl (hb_10.cell rfl)) rfl rfl ?_
        refine RL.call rfl ok15 (c_oRank A1 na1 fa1 nc1 fc1 r1 hU1 x.k w19 (hA1.sub S1)) rfl rfl ?_
        rintro _ w29 ⟨s30, n3, e4, rfl, _, hn⟩
        have S := S.trans s30
        have S1 := S1.trans s30
        have hb_8 := hb_8.sub s30
        have hb_10 := hb_10.sub s30
        have hb_12 := hb_12.sub s30
        obtain ⟨e5, rfl⟩ := hn R hM1 hT1
        have e5 : n3 = (cntLt R x.k : Int) := e5
        subst e5
        refine RL.ev (.move rfl) rfl rfl ?_
        refine RL.ev (.extract rfl rfl) rfl rfl ?_
        refine RL.ev (.extract rfl rfl) rfl rfl ?_
        refine RL.ev (.assign rfl) rfl rfl ?_
        refine RL.ev (.assign rfl) rfl rfl ?_
        refine RL.nil (RC.back ?_)
        refine RC.seq ?_
        refine RC.region rfl ?_
        refine RL.ev (.loadR ([.slice na1 A1.nodes.length nc1, .slice fa1 A1.free.length fc1]) sh28 rfl hb_8.row rfl) rfl rfl ?_
        refine RL.ev (.move rfl) rfl rfl ?_
        refine RL.ev (.field0 fo42_0 rfl) rfl rfl ?_
        refine RL.ev (.load1 sh2 rfl (hb_12.cell rfl)) rfl rfl ?_
        refine RL.call rfl ok15 (c_oRank A1 na1 fa1 nc1 fc1 r1 hU1 z.k w29 (hA1.sub S1)) rfl rfl ?_
        rintro _ w31 ⟨s32, n4, e5, rfl, _, hn⟩
        have S := S.trans s32
        have S1 := S1.trans s32
        have hb_8 := hb_8.sub s32
        have hb_10 := hb_10.sub s32
        have hb_12 := hb_12.sub s32
        obtain ⟨e5, rfl⟩ := hn R hM1 hT1
        have e5 : n4 = (cntLt R z.k : Int) := e5
        subst e5
        refine RL.ev (.move rfl) rfl rfl ?_
        refine RL.ev (.extract rfl rfl) rfl rfl ?_
        refine RL.ev (.extract rfl rfl) rfl rfl ?_
        refine RL.ev (.assign rfl) rfl rfl ?_
        refine RL.ev (.assign rfl) rfl rfl ?_
        refine RL.nil (RC.back ?_)
        refine RC.seq ?_
        refine RC.region rfl ?_
        refine RL.ev (.move rfl) rfl rfl ?_
        refine RL.ev (.as (v' := .bool true) (.bin rfl rfl rfl) (congrArg Value.bool (decide_eq_true (rfl)))) rfl rfl ?_
        refine RL.ev (.move rfl) rfl rfl ?_
        refine RL.ev (.move rfl) rfl rfl ?_
        refine RL.ev (.as (v' := .bool true) (.bin rfl rfl rfl) (congrArg Value.bool (decide_eq_true (rfl)))) rfl rfl ?_
        refine RL.ev (.pick_t rfl rfl) rfl rfl ?_
        refine RL.ev (.move rfl) rfl rfl ?_
        refine RL.ev (.field0 fo42_0 rfl) rfl rfl ?_
        refine RL.ev (.load1 sh2 rfl (hb_10.cell rfl)) rfl rfl ?_
        refine RL.ev (.field0 fo42_0 rfl) rfl rfl ?_
        refine RL.ev (.load1 sh2 rfl (hb_12.cell rfl)) rfl rfl ?_
        refine RL.ev (.bin rfl rfl rfl) rfl rfl ?_
        refine RL.ev (.move rfl) rfl rfl ?_
        refine RL.split 139 rfl (fun h33 => ?_) (fun h33 => ?_)
        ·
          have hxz := h33
          have hrk : cntLt R x.k = cntLt R z.k := (by rw [hxz])
          refine RL.ev (.move rfl) rfl rfl ?_
          refine RL.ev (.move rfl) rfl rfl ?_
          refine RL.ev (.as (v' := .bool true) (.bin rfl rfl rfl) (congrArg Value.bool (decide_eq_true (by omega)))) rfl rfl ?_
          refine RL.ev (.pick_t rfl rfl) rfl rfl ?_
          refine RL.ev (.move rfl) rfl rfl ?_
          refine RL.ev (.field0 fo42_0 rfl) rfl rfl ?_
          refine RL.ev (.load1 sh2 rfl (hb_10.cell rfl)) rfl rfl ?_
          refine RL.ev (.move rfl) rfl rfl ?_
          refine RL.ev (.as (v' := .bool true) (.bin rfl rfl rfl) (congrArg Value.bool (decide_eq_true (by omega)))) rfl rfl ?_
          refine RL.ev (.pick_t rfl rfl) rfl rfl ?_
          refine RL.ev (.move rfl) rfl rfl ?_
          refine RL.off rfl rfl ?_
          refine RL.off rfl rfl ?_
          refine RL.off rfl rfl ?_
          refine RL.off rfl rfl ?_
          refine RL.off rfl rfl ?_
          refine RL.off rfl rfl ?_
          refine RL.off rfl rfl ?_
          refine RL.off rfl rfl ?_
          refine RL.off rfl rfl ?_
          refine RL.off rfl rfl ?_
          refine RL.off rfl rfl ?_
          refine RL.off rfl rfl ?_
          refine RL.off rfl rfl ?_
          refine RL.off rfl rfl ?_
          refine RL.off rfl rfl ?_
          refine RL.off rfl rfl ?_
          refine RL.ev (.pick_t rfl rfl) rfl rfl ?_
          refine RL.ev (.pick_t rfl rfl) rfl rfl ?_
          refine RL.ev (.assign rfl) rfl rfl ?_
          refine RL.nil (RC.back ?_)
          refine RC.done (rs := [.tmp 4]) (vs := [_]) rfl rfl ⟨rfl, trivial⟩ ?_
          -- end 3
          exact ⟨rfl, S⟩
        ·
          obtain ⟨hA9, hB9, hC9⟩ := around hRs hfi hfn hcz hfk hck h33
          refine RL.off rfl rfl ?_
          refine RL.off rfl rfl ?_
          refine RL.off rfl rfl ?_
          refine RL.ev (.pick_f rfl rfl) rfl rfl ?_
          refine RL.ev (.move rfl) rfl rfl ?_
          refine RL.off rfl rfl ?_
          refine RL.off rfl rfl ?_
          refine RL.off rfl rfl ?_
          refine RL.off rfl rfl ?_
          refine RL.ev (.pick_f rfl rfl) rfl rfl ?_
          refine RL.ev (.move rfl) rfl rfl ?_
          refine RL.ev (.field0 fo42_0 rfl) rfl rfl ?_
          refine RL.ev (.load1 sh2 rfl (hb_10.cell rfl)) rfl rfl ?_
          refine RL.ev (.move rfl) rfl rfl ?_
          refine RL.ev (.as (v' := .bool true) (.bin rfl rfl rfl) (congrArg Value.bool (decide_eq_true (hA9)))) rfl rfl ?_
          refine RL.ev (.move rfl) rfl rfl ?_
          refine RL.ev (.move rfl) rfl rfl ?_
          refine RL.ev (.field0 fo42_0 rfl) rfl rfl ?_
          refine RL.ev (.load1 sh2 rfl (hb_12.cell rfl)) rfl rfl ?_
          refine RL.ev (.as (v' := .bool true) (.bin rfl rfl rfl) (congrArg Value.bool (decide_eq_true (hB9)))) rfl rfl ?_
          refine RL.ev (.pick_t rfl rfl) rfl rfl ?_
          refine RL.ev (.move rfl) rfl rfl ?_
          refine RL.ev (.move rfl) rfl rfl ?_
          refine RL.ev (.move rfl) rfl rfl ?_
          refine RL.ev (.as (.bin rfl rfl rfl) (wi64 (y := ((cntLt R x.k + 1 : Nat) : Int)) (by omega) (by omega))) rfl rfl ?_
          refine RL.ev (.as (v' := .bool true) (.bin rfl rfl rfl) (congrArg Value.bool (decide_eq_true (by omega)))) rfl rfl ?_
          refine RL.ev (.pick_t rfl rfl) rfl rfl ?_
          refine RL.ev (.pick_f rfl rfl) rfl rfl ?_
          refine RL.ev (.pick_t rfl rfl) rfl rfl ?_
          refine RL.ev (.assign rfl) rfl rfl ?_
          refine RL.nil (RC.back ?_)
          refine RC.done (rs := [.tmp 4]) (vs := [_]) rfl rfl ⟨rfl, trivial⟩ ?_
          -- end 4
          exact ⟨rfl, S⟩
end Go.Proofs.Ytekdjjppdijkmaa
