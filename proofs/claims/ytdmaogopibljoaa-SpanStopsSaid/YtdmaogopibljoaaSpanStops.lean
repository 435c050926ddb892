/-
  The statement SpanStops.
-/
import Derived.Test.YtdmaogopibljoaaSpanWalk
set_option linter.unusedVariables false
set_option linter.unusedSimpArgs false
namespace Go.Proofs.Ytdmaogopibljoaa
open Go Go.XL

theorem _root_.Go.XL.Ows.low {base base' : Nat} {w : World} {e : TypeId} {sz : Nat} {v : Value} {rows : List (List Value)} (h : Ows base w e sz v rows) (hb : base' ≤ base) : Ows base' w e sz v rows := by
  obtain ⟨⟨h1, h2⟩, h3⟩ := h
  refine ⟨⟨h1, h2.imp id ?_⟩, h3⟩
  rintro ⟨b, cap, ex, e, hb2, rest⟩
  exact ⟨b, cap, ex, e, Nat.le_trans hb hb2, rest⟩
theorem push_more {n : Int} : ∀ (L : List It) (k : Nat) (s : List It), s.length = k → (k : Int) < n → (pushF (stW (stMore n)) (k, s) L).1 = (k + min (n.toNat - k) L.length, s ++ L.take (n.toNat - k))
  | [], k, s, _, _ => by simp [pushF]
  | x :: L, k, s, hs, hk => by
    have e : stW (stMore n) (k, s) x = ((k + 1, s ++ [x]), decide (((s ++ [x]).length : Int) < n)) := rfl
    have hl : (s ++ [x]).length = k + 1 := by simp [hs]
    by_cases q : ((k + 1 : Nat) : Int) < n
    · have q2 : (stW (stMore n) (k, s) x).2 = true := by rw [e]; exact decide_eq_true (by rw [hl]; exact q)
      rw [pushF_t q2, e]
      show (pushF (stW (stMore n)) (k + 1, s ++ [x]) L).1 = _
      rw [push_more L (k + 1) (s ++ [x]) hl q]
      obtain ⟨m, hm⟩ : ∃ m, n.toNat - k = m + 1 := ⟨n.toNat - k - 1, by omega⟩
      rw [hm, show n.toNat - (k + 1) = m by omega, List.take_succ_cons, List.length_cons]
      simp only [List.append_assoc, List.singleton_append, Prod.mk.injEq, and_true]
      omega
    · have q2 : (stW (stMore n) (k, s) x).2 = false := by rw [e]; exact decide_eq_false (by rw [hl]; exact q)
      rw [pushF_f q2, e]
      rw [show n.toNat - k = 1 by omega, List.take_succ_cons, List.take_zero, List.length_cons]
      simp only [Prod.mk.injEq, and_true]
      omega
set_option maxHeartbeats 1000000 in
theorem law_SpanStops (w : World) (l : List Int) (pa : Option Addr) (pc : Nat) (hlc : l.length ≤ pc) (hcm : pc ≤ maxLen) (hs : Sl w pa 1 (l.map fun x => [i6 x])) (hli : ∀ x ∈ l, I64 x) (n0 : Int) (wn : (Lit.int .i64 n0).wf = true) (a : Int) (wa : (Lit.int .i64 a).wf = true) :
    FC Try.prog 4 [.slice pa l.length pc, .int .i64 n0, .int .i64 a] w (Val (.bool true) w) := by
  have hll : l.length ≤ 9223372036854775807 := Nat.le_trans hlc (Nat.le_trans hcm (by decide))
  have hn0 := wfI wn
  have ha : -9223372036854775808 ≤ a ∧ a ≤ 9223372036854775807 := wfI wa
  have nmn := norm_mod n0 40 (by decide)
  obtain ⟨nn, hnn, hnr⟩ : ∃ n, n = 1 + n0 % 40 ∧ 1 ≤ n ∧ n ≤ 40 := ⟨_, rfl, by omega, by omega⟩
  obtain ⟨m, hm0, hmr⟩ : ∃ m, m = (if a < -4611686018427387904 then -4611686018427387904 else a) ∧ -4611686018427387904 ≤ m ∧ m ≤ 9223372036854775807 := ⟨_, rfl, by split <;> omega, by split <;> omega⟩
  refine FC.intro Try.func4 rfl Try.ntmps4 rfl ?_
  have S := Sub.refl w
  refine RC.seq ?_
  refine RC.region rfl ?_
  refine RL.box rfl rfl rfl (fun b_4 w_4 e_4 z_4 hb_4 s_4 => ?_)
  have ge_4 := S.le e_4
  have S := S.trans s_4
  refine RL.ev (.assign rfl) rfl rfl ?_
  refine RL.nil (RC.back ?_)
  refine RC.seq ?_
  refine RC.region rfl ?_
  refine RL.ev (.assign rfl) rfl rfl ?_
  refine RL.nil (RC.back ?_)
  refine RC.seq ?_
  refine RC.seq ?_
  refine RC.region rfl ?_
  refine RL.ev (.move rfl) rfl rfl ?_
  refine RL.ev (.len sl22 rfl) rfl rfl ?_
  refine RL.ev (.move rfl) rfl rfl ?_
  refine RL.nil (RC.back ?_)
  refine RC.block ?_
  refine RC.loop (α := Nat × Option Addr × Nat × Nat) (fun x => [(2, .int .i64 a), (4, .pointer (some ⟨b_4, 0, none⟩)), (7, .slice x.2.1 x.2.2.1 x.2.2.2), (18, .slice pa l.length pc), (19, .int .i64 (l.length : Int)), (20, .int .i64 (x.1 : Int))]) (fun x w1 => (x.1 ≤ l.length ∧ x.2.2.1 = (rowN idM idM 30 l x.1).length ∧ (rowN idM idM 30 l x.1).length ≤ x.2.2.2) ∧ Ows w.heap.size w1 42 2 (.slice x.2.1 x.2.2.1 x.2.2.2) ((rowN idM idM 30 l x.1).map It.cells) ∧ (∀ k, ob (.slice x.2.1 x.2.2.1 x.2.2.2) = some k → k ≠ b_4) ∧ Has w1 b_4 [.int .i64 n0] 3 ∧ Sub w w1) (fun x => l.length - x.1) (0, none, 0, 0) (keep_of (by repeat (first | exact trivial | refine And.intro rfl ?_))) (⟨⟨Nat.zero_le _, rfl, Nat.zero_le _⟩, Ows.nil _ _ _ _, fun k e => (by cases e), hb_4, S⟩) (fun x w1 hJ => ?_)
  obtain ⟨i, ra, rm, rc⟩ := x; obtain ⟨⟨hi, hm, hc⟩, o, dO, hb_4, S⟩ := hJ; simp only [] at hi hm hc o dO; have hrl := rowN_len idM idM 30 l i
  refine RC.seq ?_
  refine RC.region rfl ?_
  refine RL.ev (.bin rfl rfl rfl) rfl rfl ?_
  refine RL.nil (RC.back ?_)
  refine RC.seq ?_
  refine RC.cond_dec rfl (fun h2 => ?_) (fun h2 => ?_)
  ·
    obtain ⟨x, hx⟩ := getSome (l := l) (i := i) (by omega)
    have hxi : -9223372036854775808 ≤ x ∧ x ≤ 9223372036854775807 := hli x (List.mem_of_getElem? hx)
    refine RC.skip (RC.back ?_)
    refine RC.seq ?_
    refine RC.block ?_
    refine RC.seq ?_
    refine RC.region rfl ?_
    refine RL.ev (.move rfl) rfl rfl ?_
    refine RL.ev (.indexS sl22 rfl rfl (by omega) (hs.is (i := 0) (by simp only [List.length_map]; omega))) rfl rfl ?_
    refine RL.ev (.load1 sh2 rfl ((hs.sub S).one (enc := i6) (i := i) hx)) rfl rfl ?_
    refine RL.ev (.assign rfl) rfl rfl ?_
    refine RL.ev (.assign rfl) rfl rfl ?_
    refine RL.nil (RC.back ?_)
    refine RC.seq ?_
    refine RC.region rfl ?_
    refine RL.ev (.move rfl) rfl rfl ?_
    refine RL.ev (.bin rfl rfl rfl) rfl rfl ?_
    refine RL.nil (RC.back ?_)
    refine RC.cond_dec rfl (fun h3 => ?_) (fun h3 => ?_)
    ·
      have hlt : i < 30 := (by omega)
      refine RC.region rfl ?_
      refine RL.ev (.move rfl) rfl rfl ?_
      refine RL.ev (.move rfl) rfl rfl ?_
      refine RL.ev (.move rfl) rfl rfl ?_
      refine RL.call rfl ok7 (c_refPut (rowN idM idM 30 l i) ra rc rm hm x (i : Int) w1 o.sl.1 (by omega)) rfl rfl ?_
      rintro vr w4 ⟨a1, c1, hvr, o1, s5⟩
      rw [← show rowN idM idM 30 l (i + 1) = putR (rowN idM idM 30 l i) x (i : Int) from rowN_put hx hlt] at hvr o1
      subst hvr
      have d1 : ∀ k, ob (.slice a1 ((rowN idM idM 30 l (i + 1)).map It.cells).length c1) = some k → k ≠ b_4 := (fun k hk e => by have := (o1.ge k hk).1; have := hb_4.lt; omega)
      have o1 := o1.low S.size
      have S := S.trans s5
      have hb_4 := hb_4.sub s5
      have hc1 : (rowN idM idM 30 l (i + 1)).length ≤ c1 := (by obtain ⟨_, c', e, h⟩ := o1.form; cases e; rw [List.length_map] at h; exact h)
      refine RL.ev (.assign rfl) rfl rfl ?_
      refine RL.nil (RC.back ?_)
      refine RC.region rfl ?_
      refine RL.ev (.as (.bin rfl rfl rfl) (wi64 (y := ((i + 1 : Nat) : Int)) (by omega) (by omega))) rfl rfl ?_
      refine RL.ev (.move rfl) rfl rfl ?_
      exact RL.nil (fun a ka => ⟨(i + 1, a1, _, c1), ⟨⟨by omega, List.length_map _, hc1⟩, o1, d1, hb_4, S⟩, by omega, ka.keep (keep_of (by repeat (first | exact trivial | refine And.intro rfl ?_)))⟩)
    ·
      have hge : ¬ i < 30 := (by omega)
      rw [← rowN_stay hge] at hm hc o
      refine RC.skip (RC.back ?_)
      refine RC.region rfl ?_
      refine RL.ev (.as (.bin rfl rfl rfl) (wi64 (y := ((i + 1 : Nat) : Int)) (by omega) (by omega))) rfl rfl ?_
      refine RL.ev (.move rfl) rfl rfl ?_
      exact RL.nil (fun a ka => ⟨(i + 1, ra, rm, rc), ⟨⟨by omega, hm, hc⟩, o, dO, hb_4, S⟩, by omega, ka.keep (keep_of (by repeat (first | exact trivial | refine And.intro rfl ?_)))⟩)
  ·
    obtain rfl : i = l.length := (by omega)
    have hRs := rowN_srt idM idM 30 l l.length
    have hRok := rowN_all (f := idM) (g := idM) (most := 30) (l := l) (P := It.ok) (fun x hx i hi => ⟨hli x hx, by unfold I64; show _ ≤ (i : Int) ∧ (i : Int) ≤ _; omega⟩) l.length (Nat.le_refl _)
    obtain ⟨R, hR⟩ : ∃ R, rowN idM idM 30 l l.length = R := ⟨_, rfl⟩
    rw [hR] at hm hc o hrl hRs hRok
    have hR30 := hrl.1
    subst hm
    refine RC.exit rfl (RC.back ?_)
    refine RC.seq ?_
    refine RC.region rfl ?_
    refine RL.ev (.as (v' := .slice ra R.length rc) (.move rfl) (by rfl)) rfl rfl ?_
    refine RL.ev (.len sl23 rfl) rfl rfl ?_
    refine RL.ev (.as (.bin rfl rfl rfl) (wi64 (y := ((R.length + 1 : Nat) : Int)) (by show (R.length : Int) + 1 = _; omega) (by omega))) rfl rfl ?_
    refine RL.ev (.as (v' := .slice ra R.length rc) (.move rfl) (by rfl)) rfl rfl ?_
    refine RL.call rfl ok8 (c_build (R.length + 1) R ra rc R.length rfl hc hRs hRok (by omega) (by omega) (by omega) w1 o.sl.1) rfl rfl ?_
    rintro _ w6 ⟨na1, fa1, nc1, fc1, rfl, hnc1, hfc1, hi1, s7⟩
    have d_hA1_b_4 := neFt (w' := w6) (fun _ (h : False) => h.elim) hb_4.lt
    have dd_o_hA1 := ddFt (w' := w6) (fun _ _ (h : False) => h.elim) (fun k hk => (o.ge k hk).2)
    have hA1 := Ft.new hi1 s7
    have S := S.trans s7
    have hb_4 := hb_4.sub s7
    have o := o.sub s7
    obtain ⟨A1, hAe1⟩ : ∃ A, buildA (R.length + 1) R = A := ⟨_, rfl⟩
    obtain ⟨r1, hre1⟩ : ∃ r, buildR (R.length + 1) R = r := ⟨_, rfl⟩
    have hB1 := build_ok (size := (R.length + 1)) hRs (by omega) (by omega) (by omega)
    have hM1 := build_map (size := (R.length + 1)) hRs (by omega) (by omega) (by omega) (by omega)
    have hT1 := hB1.isT
    have hU1 := hB1.u
    rw [hAe1, hre1] at hT1 hM1
    rw [hre1] at hU1
    rw [hAe1] at hA1
    rw [hAe1, hre1]
    refine RL.ev (.move rfl) rfl rfl ?_
    refine RL.ev (.extract rfl rfl) rfl rfl ?_
    refine RL.ev (.extract rfl rfl) rfl rfl ?_
    refine RL.alloc ze28 rfl rfl (fun b_10 w_10 e_10 z_10 hb_10 s_10 => ?_)
    have ge_10 := S.le e_10
    have n_4__10 := hb_4.ne e_10
    have d_o_b_10 := o.neNew e_10
    have d_hA1_b_10 := hA1.neNew e_10
    have S := S.trans s_10
    have hb_4 := hb_4.sub s_10
    have o := o.sub s_10
    have hA1 := hA1.sub s_10
    refine RL.store sh28 rfl rfl rfl hb_10 (by exact Nat.le_of_ble_eq_true rfl) (by rfl) rfl (fun w8 z8 hb_10 a8 => ?_)
    have S := S.upd a8 ge_10
    have hb_4 := hb_4.upd a8 n_4__10
    have o := o.updD a8 d_o_b_10
    have hA1 := hA1.updD a8 d_hA1_b_10
    have hb_10 : Has w8 b_10 ([.slice na1 A1.nodes.length nc1, .slice fa1 A1.free.length fc1]) _ := hb_10.now (by kernel_rfl)
    refine RL.ev (.assign rfl) rfl rfl ?_
    refine RL.nil (RC.back ?_)
    refine RC.seq ?_
    refine RC.region rfl ?_
    refine RL.ev (.load1 sh3 rfl (hb_4.cell rfl)) rfl rfl ?_
    refine RL.ev (.rem rfl rfl (by decide)) rfl rfl ?_
    refine RL.ev (.as (.bin rfl rfl rfl) (wi64 (y := n0.tmod 40 + 40) (by rfl) (by omega))) rfl rfl ?_
    refine RL.ev (.as (v' := .int .i64 (n0 % 40)) (.rem rfl rfl (by decide)) (by rw [nmn.2.2])) rfl rfl ?_
    refine RL.ev (.as (.bin rfl rfl rfl) (wi64 (y := nn) (by rw [hnn]) (by omega))) rfl rfl ?_
    refine RL.store sh3 rfl rfl rfl hb_4 (by exact Nat.le_of_ble_eq_true rfl) (by rfl) rfl (fun w9 z9 hb_4 a9 => ?_)
    have S := S.upd a9 ge_4
    have o := o.updD a9 dO
    have hA1 := hA1.updD a9 d_hA1_b_4
    have hb_10 := hb_10.upd a9 n_4__10.symm
    have hb_4 : Has w9 b_4 ([.int .i64 nn]) _ := hb_4
    refine RL.nil (RC.back ?_)
    refine RC.seq ?_
    refine RC.region rfl ?_
    refine RL.alloc ze23 rfl rfl (fun b_12 w_12 e_12 z_12 hb_12 s_12 => ?_)
    have ge_12 := S.le e_12
    have n_4__12 := hb_4.ne e_12
    have n_10__12 := hb_10.ne e_12
    have d_o_b_12 := o.neNew e_12
    have d_hA1_b_12 := hA1.neNew e_12
    have S := S.trans s_12
    have hb_4 := hb_4.sub s_12
    have o := o.sub s_12
    have hA1 := hA1.sub s_12
    have hb_10 := hb_10.sub s_12
    refine RL.nil (RC.back ?_)
    refine RC.seq ?_
    refine RC.region rfl ?_
    refine RL.ev (.loadR ([.slice na1 A1.nodes.length nc1, .slice fa1 A1.free.length fc1]) sh28 rfl hb_10.row rfl) rfl rfl ?_
    refine RL.ev (.move rfl) rfl rfl ?_
    refine RL.ev (.func (xs := []) (ys := [_, _]) rfl rfl) rfl rfl ?_
    refine RL.call rfl ok12 (c_walk 13 ok13 [.pointer (some ⟨b_12, 0, none⟩), .pointer (some ⟨b_4, 0, none⟩)] List.length (HMore b_12 b_4 w.heap.size nn) (stMore nn) (more_cnt nn) (f_more b_12 b_4 _ ge_12 n_4__12.symm nn) A1 na1 fa1 nc1 fc1 r1 hU1 [] rfl (fun k => (k = b_12 ∨ ob (.slice none 0 0) = some k) ∨ k = b_4) _ w_12 hA1 (fun k hk e => by rcases e with (e | e) | e <;> first | (cases e; done) | exact d_hA1_b_12 k hk e | exact d_hA1_b_4 k hk e) (HMore.ft (fun _ => Iff.rfl) hb_12 hb_4 (Ows.nil _ _ _ _) (fun k e => by cases e))) rfl rfl ?_
    rintro _ w10 ⟨C2, n1, e1, s1, rfl, hH2, ag, up, _, hres⟩
    obtain ⟨rfl, hn1, hs1⟩ := hres R hM1 hT1
    rw [push_more R 0 [] rfl (by omega)] at hn1 hs1
    obtain ⟨v, ⟨hb_12', hb_4', oM⟩, hob, hC⟩ := hH2.now
    have ag := ag.mono (N' := fun k => k = b_12 ∨ k = b_4) (fun k _ e => by rcases e with (e | e) | e <;> first | (cases e; done) | exact .inl e | exact .inr e)
    have S := S.agrN ag (fun k e => e.elim (fun e => e ▸ ge_12) (fun e => e ▸ ge_4))
    have o := o.step ag (fun k hk e => e.elim (fun e => d_o_b_12 k hk e) (fun e => dO k hk e))
    have hA1 := hA1.step ag (fun k hk e => e.elim (fun e => d_hA1_b_12 k hk e) (fun e => d_hA1_b_4 k hk e))
    have hb_10 := hb_10.step ag (fun e => e.elim (fun e => n_10__12 e) (fun e => n_4__10.symm e))
    have hb_12 := hb_12'
    have hb_4 := hb_4'
    obtain ⟨a12, c12, rfl, _⟩ := oM.form
    simp only [Nat.sub_zero, Nat.zero_add, List.nil_append] at hn1 hs1
    subst hs1
    refine RL.ev (.move rfl) rfl rfl ?_
    refine RL.ev (.extract rfl rfl) rfl rfl ?_
    refine RL.ev (.extract rfl rfl) rfl rfl ?_
    refine RL.ev (.assign rfl) rfl rfl ?_
    refine RL.ev (.assign rfl) rfl rfl ?_
    refine RL.nil (RC.back ?_)
    refine RC.seq ?_
    refine RC.region rfl ?_
    refine RL.ev (.loadR ([.slice na1 A1.nodes.length nc1, .slice fa1 A1.free.length fc1]) sh28 rfl hb_10.row rfl) rfl rfl ?_
    refine RL.ev (.move rfl) rfl rfl ?_
    refine RL.ev (.move rfl) rfl rfl ?_
    refine RL.ev (.as (v' := .int .i64 m) (.max2 rfl rfl) (by rw [hm0])) rfl rfl ?_
    refine RL.ev (.move rfl) rfl rfl ?_
    refine RL.ev (.as (v' := .int .i64 m) (.max2 rfl rfl) (by rw [hm0])) rfl rfl ?_
    refine RL.ev (.as (.bin rfl rfl rfl) (wi64 (y := m - 1) (by rfl) (by omega))) rfl rfl ?_
    refine RL.call rfl ok9 (c_all A1 na1 fa1 nc1 fc1 r1 hU1 m (m - 1) w10 hA1.now) rfl rfl ?_
    rintro _ w12 ⟨s13, a3, c3, rows, e5, rfl, o3, _, hx2⟩
    have S := S.trans s13
    have o := o.sub s13
    have hA1 := hA1.sub s13
    have hb_10 := hb_10.sub s13
    have hb_12 := hb_12.sub s13
    have hb_4 := hb_4.sub s13
    have oM := oM.sub s13
    obtain ⟨rfl, rfl⟩ := hx2 R hM1 hT1
    have hnil : inR m (m - 1) R = [] := (by unfold inR; rw [List.filter_eq_nil_iff]; intro y hy; simp; omega)
    have hsame : decide (R.take nn.toNat = R.take nn.toNat) = true := decide_eq_true rfl
    refine RL.ev (.move rfl) rfl rfl ?_
    refine RL.ev (.extract rfl rfl) rfl rfl ?_
    refine RL.ev (.extract rfl rfl) rfl rfl ?_
    refine RL.ev (.assign rfl) rfl rfl ?_
    refine RL.ev (.assign rfl) rfl rfl ?_
    refine RL.nil (RC.back ?_)
    refine RC.seq ?_
    refine RC.region rfl ?_
    refine RL.ev (.load1 sh3 rfl (hb_4.cell rfl)) rfl rfl ?_
    refine RL.ev (.as (v' := .slice ra R.length rc) (.move rfl) (by rfl)) rfl rfl ?_
    refine RL.ev (.len sl23 rfl) rfl rfl ?_
    refine RL.ev (.as (v' := .int .i64 n1) (.min2 rfl rfl) (by rw [hn1]; congr 1; split <;> omega)) rfl rfl ?_
    refine RL.ev (.assign rfl) rfl rfl ?_
    refine RL.nil (RC.back ?_)
    refine RC.seq ?_
    refine RC.draw rfl mxo (by kernel_rfl) ?_
    refine RQ.call rfl ok10 (fun w' s' => c_alive8 w') rfl rfl ?_
    refine RQ.ev (.move rfl) rfl rfl ?_
    refine RQ.ev (.move rfl) rfl rfl ?_
    refine RQ.ev (.as (v' := .bool true) (.bin rfl rfl rfl) (congrArg Value.bool (decide_eq_true (rfl)))) rfl rfl ?_
    refine RQ.ev (.pick_t rfl rfl) rfl rfl ?_
    refine RQ.ev (.move rfl) rfl rfl ?_
    refine RQ.ev (.move rfl) rfl rfl ?_
    refine RQ.ev (.as (v' := .bool true) (.bin rfl rfl rfl) (congrArg Value.bool (decide_eq_true (rfl)))) rfl rfl ?_
    refine RQ.ev (.pick_t rfl rfl) rfl rfl ?_
    refine RQ.ev (.move rfl) rfl rfl ?_
    refine RQ.ev (.move rfl) rfl rfl ?_
    refine RQ.ev (.move rfl) rfl rfl ?_
    refine RQ.ev (.as (v' := .bool true) (.bin rfl rfl rfl) (congrArg Value.bool (decide_eq_true (rfl)))) rfl rfl ?_
    refine RQ.ev (.pick_t rfl rfl) rfl rfl ?_
    refine RQ.ev (.move rfl) rfl rfl ?_
    refine RQ.ev (.load1 sh23 rfl (hb_12.cell rfl)) rfl rfl ?_
    refine RQ.ev (.as (v' := .slice ra R.length rc) (.move rfl) (by rfl)) rfl rfl ?_
    refine RQ.ev (.move rfl) rfl rfl ?_
    refine RQ.ev (.as (v' := .slice ra (R.take nn.toNat).length rc) (.sliceHi sl23 rfl rfl (by omega)) (by rw [hn1]; congr 1; simp)) rfl rfl ?_
    refine RQ.call rfl ok11 (fun w' s' => (hsame ▸ c_same (R.take nn.toNat) (R.take nn.toNat) _ _ _ _ _ _ (List.length_map _) rfl w' (oM.sub s').sl.1 (slTakeM (o.sub s').sl.1 _) (by simp; omega))) rfl rfl ?_
    refine RQ.ev (.pick_t rfl rfl) rfl rfl ?_
    refine RQ.ev (.move rfl) rfl rfl ?_
    refine RQ.ev (.move rfl) rfl rfl ?_
    refine RQ.ev (.len sl23 rfl) rfl rfl ?_
    refine RQ.ev (.as (v' := .bool true) (.bin rfl rfl rfl) (congrArg Value.bool (decide_eq_true (by rw [hnil]; rfl)))) rfl rfl ?_
    refine RQ.ev (.pick_t rfl rfl) rfl rfl ?_
    refine RQ.ev (.assign rfl) rfl rfl ?_
    refine RQ.nil (fun w14 s15 => RC.back ?_)
    have S := S.trans s15
    have o := o.sub s15
    have hA1 := hA1.sub s15
    have hb_10 := hb_10.sub s15
    have hb_12 := hb_12.sub s15
    have hb_4 := hb_4.sub s15
    have oM := oM.sub s15
    refine RC.done (rs := [.tmp 6]) (vs := [_]) rfl rfl ⟨rfl, trivial⟩ ?_
    -- end 1
    exact ⟨rfl, S⟩
end Go.Proofs.Ytdmaogopibljoaa
