/-
  The statement SpanSteps.
-/
import Derived.Test.YtdmaogopibljoaaSpanStep
set_option linter.unusedVariables false
set_option linter.unusedSimpArgs false
namespace Go.Proofs.Ytdmaogopibljoaa
open Go Go.XL

def sucM (i : Int) : Int := i + 1
def modE60 (x : Int) : Int := x % 60
theorem inR_two (low high : Int) (l : List It) : inR low high l = (l.filter fun x => decide (low ≤ x.k)).filter fun x => decide (x.k ≤ high) := by
  unfold inR
  rw [List.filter_filter]
  refine List.filter_congr fun y _ => ?_
  by_cases h1 : low ≤ y.k <;> by_cases h2 : y.k ≤ high <;> simp [h1, h2]
theorem step_cases {R : List It} (hs : Srt R) (c : Cu) : (inR c.lo c.hi R = [] ∧ stepC R c = ({ c with fin := true }, it0)) ∨ ∃ z zs, inR c.lo c.hi R = z :: zs ∧ (stepC R c).2 = z ∧ z.k ≤ c.hi ∧ ((stepC R c).1.fin = true ∨ (stepC R c).1.lo = z.k + 1) := by
  have hF : Srt (R.filter fun x => decide (c.lo ≤ x.k)) := List.Pairwise.filter _ hs
  rw [inR_two]
  cases hr : R.filter (fun x => decide (c.lo ≤ x.k)) with
  | nil =>
    have hc : ceilL c.lo R (it0, false) = (it0, false) := by unfold ceilL; rw [hr]; rfl
    exact .inl ⟨rfl, by rw [stepC, hc, if_pos (.inl rfl)]⟩
  | cons z zs =>
    have hc : ceilL c.lo R (it0, false) = (z, true) := by unfold ceilL; rw [hr]; rfl
    rw [hr] at hF
    have h2 := List.pairwise_cons.1 hF
    rw [stepC, hc]
    by_cases q : z.k > c.hi
    · left
      refine ⟨?_, by rw [if_pos (.inr q)]⟩
      rw [List.filter_eq_nil_iff]
      intro y hy
      rcases List.mem_cons.1 hy with rfl | hy
      · simp; omega
      · have := h2.1 y hy; simp; omega
    · right
      rw [if_neg (fun h => h.elim (fun h => by cases h) q)]
      refine ⟨z, zs.filter fun x => decide (x.k ≤ c.hi), by rw [List.filter_cons, if_pos (by simp; omega)], ?_, by omega, ?_⟩
      · by_cases q3 : z.k = c.hi
        · rw [if_pos q3]
        · rw [if_neg q3]
      · by_cases q3 : z.k = c.hi
        · rw [if_pos q3]; exact .inl rfl
        · rw [if_neg q3]; exact .inr rfl
set_option maxHeartbeats 1000000 in
theorem law_SpanSteps (w : World) (l : List Int) (pa : Option Addr) (pc : Nat) (hlc : l.length ≤ pc) (hcm : pc ≤ maxLen) (hs : Sl w pa 1 (l.map fun x => [i6 x])) (hli : ∀ x ∈ l, I64 x) (a : Int) (wa : (Lit.int .i64 a).wf = true) (b : Int) (wb : (Lit.int .i64 b).wf = true) :
    FC Try.prog 5 [.slice pa l.length pc, .int .i64 a, .int .i64 b] w (Val (.bool true) w) := by
  have hll : l.length ≤ 9223372036854775807 := Nat.le_trans hlc (Nat.le_trans hcm (by decide))
  have ha : -9223372036854775808 ≤ a ∧ a ≤ 9223372036854775807 := wfI wa
  have hb : -9223372036854775808 ≤ b ∧ b ≤ 9223372036854775807 := wfI wb
  refine FC.intro Try.func5 rfl Try.ntmps5 rfl ?_
  have S := Sub.refl w
  refine RC.seq ?_
  refine RC.region rfl ?_
  refine RL.ev (.assign rfl) rfl rfl ?_
  refine RL.nil (RC.back ?_)
  refine RC.seq ?_
  refine RC.region rfl ?_
  refine RL.ev (.assign rfl) rfl rfl ?_
  refine RL.nil (RC.back ?_)
  refine RC.seq ?_
  refine RC.seq ?_
  refine RC.region rfl ?_
  refine RL.ev (.move rfl) rfl rfl ?_
  refine RL.ev (.len sl22 rfl) rfl rfl ?_
  refine RL.ev (.move rfl) rfl rfl ?_
  refine RL.nil (RC.back ?_)
  refine RC.block ?_
  refine RC.loop (α := Nat × Option Addr × Nat × Nat) (fun x => [(1, .int .i64 a), (2, .int .i64 b), (7, .slice x.2.1 x.2.2.1 x.2.2.2), (19, .slice pa l.length pc), (20, .int .i64 (l.length : Int)), (21, .int .i64 (x.1 : Int))]) (fun x w1 => (x.1 ≤ l.length ∧ x.2.2.1 = (rowN modE60 sucM 20 l x.1).length ∧ (rowN modE60 sucM 20 l x.1).length ≤ x.2.2.2) ∧ Sl w1 x.2.1 2 ((rowN modE60 sucM 20 l x.1).map It.cells) ∧ Sub w w1) (fun x => l.length - x.1) (0, none, 0, 0) (keep_of (by repeat (first | exact trivial | refine And.intro rfl ?_))) (⟨⟨Nat.zero_le _, rfl, Nat.zero_le _⟩, Sl.nil _ _ _, S⟩) (fun x w1 hJ => ?_)
  obtain ⟨i, ra, rm, rc⟩ := x; obtain ⟨⟨hi, hm, hc⟩, hr, S⟩ := hJ; simp only [] at hi hm hc hr; have hrl := rowN_len modE60 sucM 20 l i
  refine RC.seq ?_
  refine RC.region rfl ?_
  refine RL.ev (.bin rfl rfl rfl) rfl rfl ?_
  refine RL.nil (RC.back ?_)
  refine RC.seq ?_
  refine RC.cond_dec rfl (fun h2 => ?_) (fun h2 => ?_)
  ·
    obtain ⟨x, hx⟩ := getSome (l := l) (i := i) (by omega)
    have hxi : -9223372036854775808 ≤ x ∧ x ≤ 9223372036854775807 := hli x (List.mem_of_getElem? hx)
    have nmx := norm_mod x 60 (by decide)
    refine RC.skip (RC.back ?_)
    refine RC.seq ?_
    refine RC.block ?_
    refine RC.seq ?_
    refine RC.region rfl ?_
    refine RL.ev (.move rfl) rfl rfl ?_
    refine RL.ev (.indexS sl22 rfl rfl (by omega) (hs.is (i := 0) (by simp only [List.length_map]; omega))) rfl rfl ?_
    refine RL.ev (.load1 sh2 rfl ((hs.sub S).one (enc := i6) (i := i) hx)) rfl rfl ?_
    refine RL.ev (.assign rfl) rfl rfl ?_
    refine RL.ev (.assign rfl) rfl rfl ?_
    refine RL.nil (RC.back ?_)
    refine RC.seq ?_
    refine RC.region rfl ?_
    refine RL.ev (.move rfl) rfl rfl ?_
    refine RL.ev (.bin rfl rfl rfl) rfl rfl ?_
    refine RL.nil (RC.back ?_)
    refine RC.cond_dec rfl (fun h3 => ?_) (fun h3 => ?_)
    ·
      have hlt : i < 20 := (by omega)
      refine RC.region rfl ?_
      refine RL.ev (.move rfl) rfl rfl ?_
      refine RL.ev (.move rfl) rfl rfl ?_
      refine RL.ev (.rem rfl rfl (by decide)) rfl rfl ?_
      refine RL.ev (.as (.bin rfl rfl rfl) (wi64 (y := x.tmod 60 + 60) (by rfl) (by omega))) rfl rfl ?_
      refine RL.ev (.as (v' := .int .i64 (x % 60)) (.rem rfl rfl (by decide)) (by rw [nmx.2.2])) rfl rfl ?_
      refine RL.ev (.move rfl) rfl rfl ?_
      refine RL.ev (.as (.bin rfl rfl rfl) (wi64 (y := ((i : Int) + 1)) (by rfl) (by omega))) rfl rfl ?_
      refine RL.call rfl ok7 (c_refPut (rowN modE60 sucM 20 l i) ra rc rm hm (x % 60) ((i : Int) + 1) w1 (hr) (by omega)) rfl rfl ?_
      rintro vr w4 ⟨a1, c1, hvr, o1, s5⟩
      have S := S.trans s5
      rw [← show rowN modE60 sucM 20 l (i + 1) = putR (rowN modE60 sucM 20 l i) (x % 60) ((i : Int) + 1) from rowN_put hx hlt] at hvr o1
      subst hvr
      have hc1 : (rowN modE60 sucM 20 l (i + 1)).length ≤ c1 := (by obtain ⟨_, c', e, h⟩ := o1.form; cases e; rw [List.length_map] at h; exact h)
      refine RL.ev (.assign rfl) rfl rfl ?_
      refine RL.nil (RC.back ?_)
      refine RC.region rfl ?_
      refine RL.ev (.as (.bin rfl rfl rfl) (wi64 (y := ((i + 1 : Nat) : Int)) (by omega) (by omega))) rfl rfl ?_
      refine RL.ev (.move rfl) rfl rfl ?_
      exact RL.nil (fun a ka => ⟨(i + 1, a1, _, c1), ⟨⟨by omega, List.length_map _, hc1⟩, o1.sl.1, S⟩, by omega, ka.keep (keep_of (by repeat (first | exact trivial | refine And.intro rfl ?_)))⟩)
    ·
      have hge : ¬ i < 20 := (by omega)
      rw [← rowN_stay hge] at hm hc hr
      refine RC.skip (RC.back ?_)
      refine RC.region rfl ?_
      refine RL.ev (.as (.bin rfl rfl rfl) (wi64 (y := ((i + 1 : Nat) : Int)) (by omega) (by omega))) rfl rfl ?_
      refine RL.ev (.move rfl) rfl rfl ?_
      exact RL.nil (fun a ka => ⟨(i + 1, ra, rm, rc), ⟨⟨by omega, hm, hc⟩, hr, S⟩, by omega, ka.keep (keep_of (by repeat (first | exact trivial | refine And.intro rfl ?_)))⟩)
  ·
    obtain rfl : i = l.length := (by omega)
    have hRs := rowN_srt modE60 sucM 20 l l.length
    have hRok := rowN_all (f := modE60) (g := sucM) (most := 20) (l := l) (P := It.ok) (fun x hx i hi => ⟨by unfold I64; show _ ≤ x % 60 ∧ x % 60 ≤ _; omega, by unfold I64; show _ ≤ (i : Int) + 1 ∧ (i : Int) + 1 ≤ _; omega⟩) l.length (Nat.le_refl _)
    have hR60 := rowN_all (f := modE60) (g := sucM) (most := 20) (l := l) (P := fun z => 0 ≤ z.k ∧ z.k < 60) (fun x hx i hi => by show 0 ≤ x % 60 ∧ x % 60 < 60; omega) l.length (Nat.le_refl _)
    obtain ⟨R, hR⟩ : ∃ R, rowN modE60 sucM 20 l l.length = R := ⟨_, rfl⟩
    rw [hR] at hm hc hr hrl hRs hRok hR60
    have hR20 := hrl.1
    subst hm
    refine RC.exit rfl (RC.back ?_)
    refine RC.seq ?_
    refine RC.region rfl ?_
    refine RL.ev (.as (v' := .slice ra R.length rc) (.move rfl) (by rfl)) rfl rfl ?_
    refine RL.ev (.len sl23 rfl) rfl rfl ?_
    refine RL.ev (.as (.bin rfl rfl rfl) (wi64 (y := ((R.length + 1 : Nat) : Int)) (by omega) (by omega))) rfl rfl ?_
    refine RL.ev (.as (v' := .slice ra R.length rc) (.move rfl) (by rfl)) rfl rfl ?_
    refine RL.call rfl ok8 (c_build (R.length + 1) R ra rc R.length rfl hc hRs hRok (by omega) (by omega) (by omega) w1 hr) rfl rfl ?_
    rintro _ w6 ⟨na1, fa1, nc1, fc1, rfl, hn1, hf1, hi1, s7⟩
    have hA1 := (hi1 (fun _ => False) (fun _ h => h.elim)).now
    have S := S.trans s7
    obtain ⟨A1, hAe1⟩ : ∃ A, buildA (R.length + 1) R = A := ⟨_, rfl⟩
    obtain ⟨r1, hre1⟩ : ∃ r, buildR (R.length + 1) R = r := ⟨_, rfl⟩
    have hB1 := build_ok (size := (R.length + 1)) hRs (by omega) (by omega) (by omega)
    have hM1 := build_map (size := (R.length + 1)) hRs (by omega) (by omega) (by omega) (by omega)
    have hT1 := hB1.isT
    have hU1 := hB1.u
    rw [hAe1, hre1] at hT1 hM1
    rw [hre1] at hU1
    rw [hAe1] at hA1
    rw [hAe1, hre1]
    obtain ⟨W1, S1, hA1⟩ : ∃ W, Sub W w6 ∧ ArR W na1 fa1 A1 := ⟨_, Sub.refl _, hA1⟩
    refine RL.ev (.move rfl) rfl rfl ?_
    refine RL.ev (.extract rfl rfl) rfl rfl ?_
    refine RL.ev (.extract rfl rfl) rfl rfl ?_
    refine RL.alloc ze28 rfl rfl (fun b_10 w_10 e_10 z_10 hb_10 s_10 => ?_)
    have ge_10 := S.le e_10
    have S := S.trans s_10
    have geS1_10 := S1.le e_10
    have S1 := S1.trans s_10
    refine RL.store sh28 rfl rfl rfl hb_10 (by exact Nat.le_of_ble_eq_true rfl) (by rfl) rfl (fun w8 z8 hb_10 a8 => ?_)
    have S := S.upd a8 ge_10
    have S1 := S1.upd a8 geS1_10
    have hb_10 : Has w8 b_10 ([.slice na1 A1.nodes.length nc1, .slice fa1 A1.free.length fc1]) _ := hb_10.now (by kernel_rfl)
    refine RL.ev (.assign rfl) rfl rfl ?_
    refine RL.nil (RC.back ?_)
    refine RC.seq ?_
    refine RC.region rfl ?_
    refine RL.ev (.loadR ([.slice na1 A1.nodes.length nc1, .slice fa1 A1.free.length fc1]) sh28 rfl hb_10.row rfl) rfl rfl ?_
    refine RL.ev (.move rfl) rfl rfl ?_
    refine RL.ev (.move rfl) rfl rfl ?_
    refine RL.ev (.move rfl) rfl rfl ?_
    refine RL.call rfl ok14 (c_open A1 na1 fa1 nc1 fc1 r1 hU1 a b w8 (hA1.sub S1)) rfl rfl ?_
    rintro _ w9 ⟨s10, c1, e1, rfl, _, hc1⟩
    have S := S.trans s10
    have S1 := S1.trans s10
    have hb_10 := hb_10.sub s10
    obtain ⟨rfl, rfl⟩ := hc1 hM1
    refine RL.ev (.move rfl) rfl rfl ?_
    refine RL.ev (.extract rfl rfl) rfl rfl ?_
    refine RL.ev (.extract rfl rfl) rfl rfl ?_
    refine RL.alloc ze46 rfl rfl (fun b_12 w_12 e_12 z_12 hb_12 s_12 => ?_)
    have ge_12 := S.le e_12
    have n_10__12 := hb_10.ne e_12
    have S := S.trans s_12
    have geS1_12 := S1.le e_12
    have S1 := S1.trans s_12
    have hb_10 := hb_10.sub s_12
    refine RL.store sh46 rfl rfl rfl hb_12 (by exact Nat.le_of_ble_eq_true rfl) (by rfl) rfl (fun w11 z11 hb_12 a11 => ?_)
    have S := S.upd a11 ge_12
    have S1 := S1.upd a11 geS1_12
    have hb_10 := hb_10.upd a11 n_10__12
    have hb_12 : Has w11 b_12 ((⟨r1, a, b, false⟩ : Cu).cells) _ := hb_12.now (by kernel_rfl)
    refine RL.ev (.assign rfl) rfl rfl ?_
    refine RL.nil (RC.back ?_)
    refine RC.seq ?_
    refine RC.region rfl ?_
    refine RL.ev (.loadR ([.slice na1 A1.nodes.length nc1, .slice fa1 A1.free.length fc1]) sh28 rfl hb_10.row rfl) rfl rfl ?_
    refine RL.ev (.loadR ((⟨r1, a, b, false⟩ : Cu).cells) sh46 rfl hb_12.row rfl) rfl rfl ?_
    refine RL.call rfl ok15 (c_step A1 na1 fa1 nc1 fc1 ⟨r1, a, b, false⟩ hU1 ha hb w11 (hA1.sub S1)) rfl rfl ?_
    rintro _ w12 ⟨s13, c2, x2, e2, rfl, _, _, hs2⟩
    have S := S.trans s13
    have S1 := S1.trans s13
    have hb_10 := hb_10.sub s13
    have hb_12 := hb_12.sub s13
    obtain ⟨rfl, hst⟩ := hs2 R hM1 hT1 rfl
    have hcs := step_cases hRs ⟨r1, a, b, false⟩
    rw [← hst] at hcs
    simp only [] at hcs
    refine RL.ev (.move rfl) rfl rfl ?_
    refine RL.ev (.extract rfl rfl) rfl rfl ?_
    refine RL.ev (.extract rfl rfl) rfl rfl ?_
    refine RL.ev (.extract rfl rfl) rfl rfl ?_
    refine RL.alloc ze46 rfl rfl (fun b_14 w_14 e_14 z_14 hb_14 s_14 => ?_)
    have ge_14 := S.le e_14
    have n_10__14 := hb_10.ne e_14
    have n_12__14 := hb_12.ne e_14
    have S := S.trans s_14
    have geS1_14 := S1.le e_14
    have S1 := S1.trans s_14
    have hb_10 := hb_10.sub s_14
    have hb_12 := hb_12.sub s_14
    refine RL.alloc ze42 rfl rfl (fun b_15 w_15 e_15 z_15 hb_15 s_15 => ?_)
    have ge_15 := S.le e_15
    have n_10__15 := hb_10.ne e_15
    have n_12__15 := hb_12.ne e_15
    have n_14__15 := hb_14.ne e_15
    have S := S.trans s_15
    have geS1_15 := S1.le e_15
    have S1 := S1.trans s_15
    have hb_10 := hb_10.sub s_15
    have hb_12 := hb_12.sub s_15
    have hb_14 := hb_14.sub s_15
    refine RL.store sh46 rfl rfl rfl hb_14 (by exact Nat.le_of_ble_eq_true rfl) (by rfl) rfl (fun w14 z14 hb_14 a14 => ?_)
    have S := S.upd a14 ge_14
    have S1 := S1.upd a14 geS1_14
    have hb_10 := hb_10.upd a14 n_10__14
    have hb_12 := hb_12.upd a14 n_12__14
    have hb_15 := hb_15.upd a14 n_14__15.symm
    have hb_14 : Has w14 b_14 (c2.cells) _ := hb_14.now (by kernel_rfl)
    refine RL.store sh42 rfl rfl rfl hb_15 (by exact Nat.le_of_ble_eq_true rfl) (by rfl) rfl (fun w15 z15 hb_15 a15 => ?_)
    have S := S.upd a15 ge_15
    have S1 := S1.upd a15 geS1_15
    have hb_10 := hb_10.upd a15 n_10__15
    have hb_12 := hb_12.upd a15 n_12__15
    have hb_14 := hb_14.upd a15 n_14__15
    have hb_15 : Has w15 b_15 (x2.cells) _ := hb_15.now (by kernel_rfl)
    refine RL.ev (.assign rfl) rfl rfl ?_
    refine RL.nil (RC.back ?_)
    refine RC.seq ?_
    refine RC.region rfl ?_
    refine RL.ev (.loadR ([.slice na1 A1.nodes.length nc1, .slice fa1 A1.free.length fc1]) sh28 rfl hb_10.row rfl) rfl rfl ?_
    refine RL.ev (.move rfl) rfl rfl ?_
    refine RL.ev (.move rfl) rfl rfl ?_
    refine RL.ev (.move rfl) rfl rfl ?_
    refine RL.call rfl ok9 (c_all A1 na1 fa1 nc1 fc1 r1 hU1 a b w15 (hA1.sub S1)) rfl rfl ?_
    rintro _ w16 ⟨s17, a3, c3, rows, e5, rfl, o, _, hx2⟩
    have S := S.trans s17
    have S1 := S1.trans s17
    have hb_10 := hb_10.sub s17
    have hb_12 := hb_12.sub s17
    have hb_14 := hb_14.sub s17
    have hb_15 := hb_15.sub s17
    obtain ⟨rfl, rfl⟩ := hx2 R hM1 hT1
    refine RL.ev (.move rfl) rfl rfl ?_
    refine RL.ev (.extract rfl rfl) rfl rfl ?_
    refine RL.ev (.extract rfl rfl) rfl rfl ?_
    refine RL.ev (.assign rfl) rfl rfl ?_
    refine RL.ev (.assign rfl) rfl rfl ?_
    refine RL.nil (RC.back ?_)
    refine RC.seq ?_
    refine RC.seq ?_
    refine RC.region rfl ?_
    refine RL.ev (.move rfl) rfl rfl ?_
    refine RL.ev (.as (v' := .bool false) (.bin rfl rfl rfl) (congrArg Value.bool (decide_eq_false (fun h => h rfl)))) rfl rfl ?_
    refine RL.ev (.move rfl) rfl rfl ?_
    refine RL.ev (.move rfl) rfl rfl ?_
    refine RL.ev (.as (v' := .bool false) (.bin rfl rfl rfl) (congrArg Value.bool (decide_eq_false (fun h => h rfl)))) rfl rfl ?_
    refine RL.ev (.pick_f rfl rfl) rfl rfl ?_
    refine RL.ev (.move rfl) rfl rfl ?_
    refine RL.ev (.move rfl) rfl rfl ?_
    refine RL.ev (.as (v' := .bool false) (.bin rfl rfl rfl) (congrArg Value.bool (decide_eq_false (fun h => h rfl)))) rfl rfl ?_
    refine RL.ev (.pick_f rfl rfl) rfl rfl ?_
    refine RL.ev (.move rfl) rfl rfl ?_
    refine RL.call rfl ok10 (c_alive8 w16) rfl rfl ?_
    rintro _ w18 ⟨rfl, s19⟩
    have S := S.trans s19
    have S1 := S1.trans s19
    have hb_10 := hb_10.sub s19
    have hb_12 := hb_12.sub s19
    have hb_14 := hb_14.sub s19
    have hb_15 := hb_15.sub s19
    have o := o.sub s19
    refine RL.ev (.not rfl) rfl rfl ?_
    refine RL.ev (.pick_f rfl rfl) rfl rfl ?_
    refine RL.nil (RC.back ?_)
    refine RC.cond_f rfl ?_
    refine RC.skip (RC.back ?_)
    refine RC.seq ?_
    refine RC.seq ?_
    refine RC.region rfl ?_
    refine RL.ev (.move rfl) rfl rfl ?_
    refine RL.ev (.len sl23 rfl) rfl rfl ?_
    refine RL.ev (.bin rfl rfl rfl) rfl rfl ?_
    refine RL.nil (RC.back ?_)
    refine RC.cond_dec rfl (fun h20 => ?_) (fun h20 => ?_)
    ·
      have hnil : inR a b R = [] := List.eq_nil_of_length_eq_zero (by have := h20; simp only [List.length_map] at this; omega)
      have hcf : c2.fin = true ∧ x2 = it0 := (by have h := hcs.resolve_right (fun ⟨z, zs, h, _⟩ => by rw [hnil] at h; cases h); rw [(Prod.mk.inj h.2).1, (Prod.mk.inj h.2).2]; exact ⟨rfl, rfl⟩)
      obtain ⟨hcf, hx20⟩ := hcf
      refine RC.seq ?_
      refine RC.region rfl ?_
      refine RL.ev (.field0 fo46_3 rfl) rfl rfl ?_
      refine RL.ev (.as (v' := .bool true) (.load1 sh4 rfl (hb_14.cell rfl)) (congrArg Value.bool (hcf))) rfl rfl ?_
      refine RL.ev (.move rfl) rfl rfl ?_
      refine RL.ev (.loadR (x2.cells) sh42 rfl hb_15.row rfl) rfl rfl ?_
      refine RL.ev (.buildS ze42 pl42 rfl rfl) rfl rfl ?_
      refine RL.ev (.as (v' := .bool true) (.eqS (xs := x2.cells) (ys := it0.cells) fk42 eg42 sh42 rfl rfl rfl rfl rfl) (congrArg Value.bool (by rw [hx20]; exact eqL_it it0))) rfl rfl ?_
      refine RL.ev (.pick_t rfl rfl) rfl rfl ?_
      refine RL.ev (.assign rfl) rfl rfl ?_
      refine RL.nil (RC.back ?_)
      refine RC.done (rs := [.tmp 6]) (vs := [_]) rfl rfl ⟨rfl, trivial⟩ ?_
      -- end 1
      exact ⟨rfl, S⟩
    ·
      have hne : ¬ inR a b R = [] := (fun e => by have := h20; rw [e] at this; exact this rfl)
      obtain ⟨z, zs, hz, rfl, hzb, hfl⟩ : ∃ z zs, inR a b R = z :: zs ∧ x2 = z ∧ z.k ≤ b ∧ (c2.fin = true ∨ c2.lo = z.k + 1) := hcs.resolve_left (fun h => hne h.1)
      have hz0 : (inR a b R)[0]? = some x2 := (by rw [hz]; rfl)
      have hzl : 0 < (inR a b R).length := (by rw [hz]; simp)
      have hzm : x2 ∈ R := (List.mem_filter.1 (show x2 ∈ inR a b R by rw [hz]; exact List.mem_cons_self)).1
      have hz6 := hR60 x2 hzm
      refine RC.skip (RC.back ?_)
      refine RC.seq ?_
      refine RC.draw rfl mxo (by kernel_rfl) ?_
      refine RQ.ev (.loadR (x2.cells) sh42 rfl hb_15.row rfl) rfl rfl ?_
      refine RQ.ev (.move rfl) rfl rfl ?_
      refine RQ.ev (.indexS sl23 rfl rfl (idx_map (j := 0) (by omega)) (o.sl.1.is (i := 0) (by rw [List.length_map]; omega))) rfl rfl ?_
      refine RQ.ev (.loadR (x2.cells) sh42 rfl (o.sl.1.rowAt (enc := It.cells) (i := 0) hz0) rfl) rfl rfl ?_
      refine RQ.ev (.as (v' := .bool true) (.eqS (xs := x2.cells) (ys := x2.cells) fk42 eg42 sh42 rfl rfl rfl rfl rfl) (congrArg Value.bool (eqL_it x2))) rfl rfl ?_
      refine RQ.ev (.move rfl) rfl rfl ?_
      refine RQ.ev (.field0 fo46_3 rfl) rfl rfl ?_
      refine RQ.ev (.load1 sh4 rfl (hb_14.cell rfl)) rfl rfl ?_
      refine RQ.ev (.move rfl) rfl rfl ?_
      refine RQ.splitB 100 rfl (fun h21 => ?_) (fun h21 => ?_)
      ·
        refine RQ.off rfl rfl ?_
        refine RQ.off rfl rfl ?_
        refine RQ.off rfl rfl ?_
        refine RQ.off rfl rfl ?_
        refine RQ.off rfl rfl ?_
        refine RQ.off rfl rfl ?_
        refine RQ.ev (.pick_t rfl rfl) rfl rfl ?_
        refine RQ.ev (.pick_t rfl rfl) rfl rfl ?_
        refine RQ.ev (.assign rfl) rfl rfl ?_
        refine RQ.nil (fun w22 s23 => RC.back ?_)
        have S := S.trans s23
        have S1 := S1.trans s23
        have hb_10 := hb_10.sub s23
        have hb_12 := hb_12.sub s23
        have hb_14 := hb_14.sub s23
        have hb_15 := hb_15.sub s23
        have o := o.sub s23
        refine RC.done (rs := [.tmp 6]) (vs := [_]) rfl rfl ⟨rfl, trivial⟩ ?_
        -- end 2
        exact ⟨rfl, S⟩
      ·
        have hlo : c2.lo = x2.k + 1 := hfl.resolve_left (by simpa using h21)
        refine RQ.ev (.field0 fo46_1 rfl) rfl rfl ?_
        refine RQ.ev (.load1 sh2 rfl (hb_14.cell rfl)) rfl rfl ?_
        refine RQ.ev (.field0 fo42_0 rfl) rfl rfl ?_
        refine RQ.ev (.load1 sh2 rfl (hb_15.cell rfl)) rfl rfl ?_
        refine RQ.ev (.as (.bin rfl rfl rfl) (wi64 (y := x2.k + 1) (by rfl) (by omega))) rfl rfl ?_
        refine RQ.ev (.as (v' := .bool true) (.bin rfl rfl rfl) (congrArg Value.bool (decide_eq_true (hlo)))) rfl rfl ?_
        refine RQ.ev (.pick_f rfl rfl) rfl rfl ?_
        refine RQ.ev (.pick_t rfl rfl) rfl rfl ?_
        refine RQ.ev (.assign rfl) rfl rfl ?_
        refine RQ.nil (fun w24 s25 => RC.back ?_)
        have S := S.trans s25
        have S1 := S1.trans s25
        have hb_10 := hb_10.sub s25
        have hb_12 := hb_12.sub s25
        have hb_14 := hb_14.sub s25
        have hb_15 := hb_15.sub s25
        have o := o.sub s25
        refine RC.done (rs := [.tmp 6]) (vs := [_]) rfl rfl ⟨rfl, trivial⟩ ?_
        -- end 3
        exact ⟨rfl, S⟩
end Go.Proofs.Ytdmaogopibljoaa
