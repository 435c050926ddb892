/-
  The statement TreapAgain.
-/
import Derived.Test.YtekdjjppdijkmaaTreapMakes
set_option linter.unusedVariables false
set_option linter.unusedSimpArgs false
namespace Go.Proofs.Ytekdjjppdijkmaa
open Go Go.XL

def idI (i : Int) : Int := i
def m60 (x : Int) : Int := x % 60
theorem delL_split {L : List It} (h : Srt L) (key : Int) : delL L key = ltL key L ++ gtL key L := by
  induction L with
  | nil => rfl
  | cons x L ih =>
    obtain ⟨h1, h2⟩ := List.pairwise_cons.1 h
    by_cases q : x.k < key
    · rw [show delL (x :: L) key = x :: delL L key from by unfold delL; rw [List.filter_cons, if_pos (by simp; omega)],
        show ltL key (x :: L) = x :: ltL key L from by unfold ltL; rw [List.filter_cons, if_pos (by simpa using q)],
        show gtL key (x :: L) = gtL key L from by unfold gtL; rw [List.filter_cons, if_neg (by simp; omega)], ih h2, List.cons_append]
    · have e1 : ltL key (x :: L) = [] := by
        refine filter_none fun y hy => ?_
        rcases List.mem_cons.1 hy with rfl | hy
        · simpa using q
        · have := h1 y hy; simp; omega
      rw [e1, List.nil_append]
      refine List.filter_congr fun y hy => decide_eq_decide.2 ?_
      rcases List.mem_cons.1 hy with rfl | hy
      · omega
      · have := h1 y hy; omega
theorem delL_putL {L : List It} (h : Srt L) (key v : Int) : delL (putL L key v) key = delL L key := by
  rw [delL_split h, show delL (putL L key v) key = delL (ltL key L) key ++ delL (gtL key L) key from by unfold putL delL; rw [List.filter_append, List.filter_cons, if_neg (by simp)]]
  congr 1
  · exact filter_all fun y hy => by have := (List.mem_filter.1 hy).2; simp at this ⊢; omega
  · exact filter_all fun y hy => by have := (List.mem_filter.1 hy).2; simp at this ⊢; omega
theorem ltL_putL (L : List It) (key v : Int) : ltL key (putL L key v) = ltL key L := by
  have h1 : ltL key (ltL key L) = ltL key L := filter_all fun y hy => (List.mem_filter.1 hy).2
  have h2 : ltL key (gtL key L) = [] := filter_none fun y hy => by have := (List.mem_filter.1 hy).2; simp at this ⊢; omega
  have h3 : ltL key (⟨key, v⟩ :: gtL key L) = [] := by rw [← h2]; unfold ltL; rw [List.filter_cons, if_neg (by simp)]
  calc ltL key (putL L key v) = ltL key (ltL key L) ++ ltL key (⟨key, v⟩ :: gtL key L) := List.filter_append _ _
    _ = ltL key L := by rw [h1, h3, List.append_nil]
theorem gtL_putL (L : List It) (key v : Int) : gtL key (putL L key v) = gtL key L := by
  have h1 : gtL key (gtL key L) = gtL key L := filter_all fun y hy => (List.mem_filter.1 hy).2
  have h2 : gtL key (ltL key L) = [] := filter_none fun y hy => by have := (List.mem_filter.1 hy).2; simp at this ⊢; omega
  have h3 : gtL key (⟨key, v⟩ :: gtL key L) = gtL key L := by conv => rhs; rw [← h1]
                                                              unfold gtL; rw [List.filter_cons, if_neg (by simp)]
  calc gtL key (putL L key v) = gtL key (ltL key L) ++ gtL key (⟨key, v⟩ :: gtL key L) := List.filter_append _ _
    _ = gtL key L := by rw [h2, h3, List.nil_append]
theorem putL_putL (L : List It) (key v v2 : Int) : putL (putL L key v) key v2 = putL L key v2 := by
  rw [putL, ltL_putL, gtL_putL, putL]
set_option maxHeartbeats 4000000 in
theorem law_TreapAgain (w : World) (l : List Int) (pa : Option Addr) (pc : Nat) (hlc : l.length ≤ pc) (hcm : pc ≤ maxLen) (hs : Sl w pa 1 (l.map fun x => [i6 x])) (hli : ∀ x ∈ l, I64 x) (key : Int) (wk : (Lit.int .i64 key).wf = true) (v : Int) (wv : (Lit.int .i64 v).wf = true) :
    FC Try.prog 10 [.slice pa l.length pc, .int .i64 key, .int .i64 v] w (Val (.bool true) w) := by
  have hk := wfI wk
  have hv := wfI wv
  have hll : l.length ≤ 9223372036854775807 := Nat.le_trans hlc (Nat.le_trans hcm (by decide))
  have nmk := norm_mod key 60 (by decide)
  obtain ⟨kk, hkk⟩ : ∃ kk, kk = key % 60 := ⟨_, rfl⟩
  have hkr : 0 ≤ kk ∧ kk < 60 := by omega
  have hki : I64 kk := by unfold I64; omega
  refine FC.intro Try.func10 rfl Try.ntmps10 rfl ?_
  have S := Sub.refl w
  refine RC.seq ?_
  refine RC.region rfl ?_
  refine RL.ev (.assign rfl) rfl rfl ?_
  refine RL.nil (RC.back ?_)
  refine RC.seq ?_
  refine RC.region rfl ?_
  refine RL.buildSlice0 sl23 rfl rfl (fun b_25 w_25 e_25 z_25 hb_25 s_25 => ?_)
  have ge_25 := S.le e_25
  have S := S.trans s_25
  refine RL.ev (.assign rfl) rfl rfl ?_
  refine RL.nil (RC.back ?_)
  refine RC.seq ?_
  refine RC.seq ?_
  refine RC.region rfl ?_
  refine RL.ev (.move rfl) rfl rfl ?_
  refine RL.ev (.len sl22 rfl) rfl rfl ?_
  refine RL.ev (.move rfl) rfl rfl ?_
  refine RL.nil (RC.back ?_)
  refine RC.block ?_
  refine RC.loop (α := Nat × Option Addr × Nat × Nat) (fun x => [(1, .int .i64 key), (2, .int .i64 v), (7, .slice x.2.1 x.2.2.1 x.2.2.2), (26, .slice pa l.length pc), (27, .int .i64 (l.length : Int)), (28, .int .i64 (x.1 : Int))]) (fun x w1 => (x.1 ≤ l.length ∧ x.2.2.1 = (rowN m60 idI 20 l x.1).length ∧ (rowN m60 idI 20 l x.1).length ≤ x.2.2.2) ∧ Sl w1 x.2.1 2 ((rowN m60 idI 20 l x.1).map It.cells) ∧ Sub w w1) (fun x => l.length - x.1) (0, some ⟨b_25, 0, none⟩, 0, 0) (keep_of (by repeat (first | exact trivial | refine And.intro rfl ?_))) (⟨⟨Nat.zero_le _, rfl, Nat.zero_le _⟩, (Ows.lit0 (base := 0) (sz := 2) hb_25 (Nat.zero_le _)).sl.1, S⟩) (fun x w1 hJ => ?_)
  obtain ⟨i, ra, rm, rc⟩ := x; obtain ⟨⟨hi, hm, hc⟩, hr, S⟩ := hJ; simp only [] at hi hm hc hr; have hrl := rowN_len m60 idI 20 l i
  refine RC.seq ?_
  refine RC.region rfl ?_
  refine RL.ev (.bin rfl rfl rfl) rfl rfl ?_
  refine RL.nil (RC.back ?_)
  refine RC.seq ?_
  refine RC.cond_dec rfl (fun h2 => ?_) (fun h2 => ?_)
  ·
    obtain ⟨x, hx⟩ := getSome (l := l) (i := i) (by omega)
    have hxi : -9223372036854775808 ≤ x ∧ x ≤ 9223372036854775807 := hli x (List.mem_of_getElem? hx)
    have nmx := norm_mod x 60 (by decide)
    refine RC.skip (RC.back ?_)
    refine RC.seq ?_
    refine RC.block ?_
    refine RC.seq ?_
    refine RC.region rfl ?_
    refine RL.ev (.move rfl) rfl rfl ?_
    refine RL.ev (.indexS sl22 rfl rfl (by omega) (hs.is (i := 0) (by simp only [List.length_map]; omega))) rfl rfl ?_
    refine RL.ev (.load1 sh2 rfl ((hs.sub S).one (enc := i6) (i := i) hx)) rfl rfl ?_
    refine RL.ev (.assign rfl) rfl rfl ?_
    refine RL.ev (.assign rfl) rfl rfl ?_
    refine RL.nil (RC.back ?_)
    refine RC.seq ?_
    refine RC.region rfl ?_
    refine RL.ev (.move rfl) rfl rfl ?_
    refine RL.ev (.bin rfl rfl rfl) rfl rfl ?_
    refine RL.nil (RC.back ?_)
    refine RC.cond_dec rfl (fun h3 => ?_) (fun h3 => ?_)
    ·
      have hlt : i < 20 := (by omega)
      refine RC.region rfl ?_
      refine RL.ev (.move rfl) rfl rfl ?_
      refine RL.ev (.move rfl) rfl rfl ?_
      refine RL.ev (.rem rfl rfl (by decide)) rfl rfl ?_
      refine RL.ev (.as (.bin rfl rfl rfl) (wi64 (y := x.tmod 60 + 60) (by rfl) (by omega))) rfl rfl ?_
      refine RL.ev (.as (v' := .int .i64 (x % 60)) (.rem rfl rfl (by decide)) (by rw [nmx.2.2])) rfl rfl ?_
      refine RL.ev (.move rfl) rfl rfl ?_
      refine RL.call rfl ok13 (c_refPut (rowN m60 idI 20 l i) ra rc rm hm (x % 60) (i : Int) w1 (hr) (by omega)) rfl rfl ?_
      rintro vr w4 ⟨a1, c1, hvr, o1, s5⟩
      have S := S.trans s5
      rw [← show rowN m60 idI 20 l (i + 1) = putR (rowN m60 idI 20 l i) (x % 60) (i : Int) from rowN_put hx hlt] at hvr o1
      subst hvr
      have hc1 : (rowN m60 idI 20 l (i + 1)).length ≤ c1 := (by obtain ⟨_, c', e, h⟩ := o1.form; cases e; rw [List.length_map] at h; exact h)
      refine RL.ev (.assign rfl) rfl rfl ?_
      refine RL.nil (RC.back ?_)
      refine RC.region rfl ?_
      refine RL.ev (.as (.bin rfl rfl rfl) (wi64 (y := ((i + 1 : Nat) : Int)) (by omega) (by omega))) rfl rfl ?_
      refine RL.ev (.move rfl) rfl rfl ?_
      exact RL.nil (fun a ka => ⟨(i + 1, a1, _, c1), ⟨⟨by omega, List.length_map _, hc1⟩, o1.sl.1, S⟩, by omega, ka.keep (keep_of (by repeat (first | exact trivial | refine And.intro rfl ?_)))⟩)
    ·
      have hge : ¬ i < 20 := (by omega)
      rw [← rowN_stay hge] at hm hc hr
      refine RC.skip (RC.back ?_)
      refine RC.region rfl ?_
      refine RL.ev (.as (.bin rfl rfl rfl) (wi64 (y := ((i + 1 : Nat) : Int)) (by omega) (by omega))) rfl rfl ?_
      refine RL.ev (.move rfl) rfl rfl ?_
      exact RL.nil (fun a ka => ⟨(i + 1, ra, rm, rc), ⟨⟨by omega, hm, hc⟩, hr, S⟩, by omega, ka.keep (keep_of (by repeat (first | exact trivial | refine And.intro rfl ?_)))⟩)
  ·
    obtain rfl : i = l.length := (by omega)
    have hRs := rowN_srt m60 idI 20 l l.length
    have hRok := rowN_all (f := m60) (g := idI) (most := 20) (l := l) (P := It.ok) (fun x hx i hi => ⟨by unfold I64; show _ ≤ x % 60 ∧ x % 60 ≤ _; omega, by unfold I64; show _ ≤ (i : Int) ∧ (i : Int) ≤ _; omega⟩) l.length (Nat.le_refl _)
    obtain ⟨R, hR⟩ : ∃ R, rowN m60 idI 20 l l.length = R := ⟨_, rfl⟩
    rw [hR] at hm hc hr hrl hRs hRok
    have hR20 := hrl.1
    obtain ⟨W0, S0, hr⟩ : ∃ W, Sub W w1 ∧ Sl W ra 2 (R.map It.cells) := ⟨_, Sub.refl _, hr⟩
    refine RC.exit rfl (RC.back ?_)
    refine RC.seq ?_
    refine RC.region rfl ?_
    refine RL.ev (.move rfl) rfl rfl ?_
    refine RL.ev (.rem rfl rfl (by decide)) rfl rfl ?_
    refine RL.ev (.as (.bin rfl rfl rfl) (wi64 (y := key.tmod 60 + 60) (by rfl) (by omega))) rfl rfl ?_
    refine RL.ev (.as (v' := .int .i64 kk) (.rem rfl rfl (by decide)) (by rw [nmk.2.2, hkk])) rfl rfl ?_
    refine RL.ev (.assign rfl) rfl rfl ?_
    refine RL.nil (RC.back ?_)
    refine RC.seq ?_
    refine RC.region rfl ?_
    refine RL.ev (.move rfl) rfl rfl ?_
    refine RL.call rfl ok14 (c_build 400 R ra rc rm hm hc hRs hRok (by omega) (by decide) (by decide) w1 (hr.sub S0)) rfl rfl ?_
    rintro _ w6 ⟨na1, fa1, nc1, fc1, rfl, hn1, hf1, hi1, s7⟩
    have hA1 := (hi1 (fun _ => False) (fun _ h => h.elim)).now
    have S := S.trans s7
    have S0 := S0.trans s7
    obtain ⟨A1, hAe1⟩ : ∃ A, buildA 400 R = A := ⟨_, rfl⟩
    obtain ⟨r1, hre1⟩ : ∃ r, buildR 400 R = r := ⟨_, rfl⟩
    have hB1 := build_ok (size := 400) hRs (by omega) (by decide) (by decide)
    have hM1 := build_map (size := 400) hRs (by omega) (by decide) (by decide) (by omega)
    have hT1 := hB1.isT
    have hU1 := hB1.u
    have hF1 := hB1.free
    rw [hAe1, hre1] at hT1 hM1
    rw [hre1] at hU1
    rw [hAe1] at hA1 hF1 hn1 hf1
    rw [hAe1, hre1]
    obtain ⟨W1, S1, hA1⟩ : ∃ W, Sub W w6 ∧ ArR W na1 fa1 A1 := ⟨_, Sub.refl _, hA1⟩
    have hG1 := Ft.of_sub fun u s => hA1.sub s
    refine RL.ev (.move rfl) rfl rfl ?_
    refine RL.ev (.extract rfl rfl) rfl rfl ?_
    refine RL.ev (.extract rfl rfl) rfl rfl ?_
    refine RL.alloc ze28 rfl rfl (fun b_10 w_10 e_10 z_10 hb_10 s_10 => ?_)
    have ge_10 := S.le e_10
    have S := S.trans s_10
    have geS0_10 := S0.le e_10
    have S0 := S0.trans s_10
    have geS1_10 := S1.le e_10
    have S1 := S1.trans s_10
    refine RL.store sh28 rfl rfl rfl hb_10 (by exact Nat.le_of_ble_eq_true rfl) (by rfl) rfl (fun w8 z8 hb_10 a8 => ?_)
    have S := S.upd a8 ge_10
    have S0 := S0.upd a8 geS0_10
    have S1 := S1.upd a8 geS1_10
    have hb_10 : Has w8 b_10 ([.slice na1 A1.nodes.length nc1, .slice fa1 A1.free.length fc1]) _ := hb_10.now (by kernel_rfl)
    refine RL.ev (.assign rfl) rfl rfl ?_
    refine RL.nil (RC.back ?_)
    refine RC.seq ?_
    refine RC.region rfl ?_
    refine RL.ev (.loadR ([.slice na1 A1.nodes.length nc1, .slice fa1 A1.free.length fc1]) sh28 rfl hb_10.row rfl) rfl rfl ?_
    refine RL.ev (.move rfl) rfl rfl ?_
    refine RL.ev (.move rfl) rfl rfl ?_
    refine RL.ev (.move rfl) rfl rfl ?_
    refine RL.call rfl ok27 (c_tput A1 na1 fa1 nc1 fc1 hn1 hf1 r1 kk v hU1 hki hv _ w8 (hG1.sub S1)) rfl rfl ?_
    rintro _ w9 ⟨s10, na2, fa2, nc2, fc2, A2, r2, e2, M2, rfl, hU2, hn2, hf2, hA2, _, hp2⟩
    have S := S.trans s10
    have S0 := S0.trans s10
    have S1 := S1.trans s10
    have hb_10 := hb_10.sub s10
    obtain ⟨rfl, hE2, hok2, hF2, hT2, hM2⟩ := hp2.good hM1 hT1 (by omega) (by omega) (by omega)
    have hl2 := putL_len (key := kk) (v := v) hRs
    have hs2 : Srt (putL R kk v) := hRs.put
    obtain ⟨W2, S2, hA2⟩ : ∃ W2, Sub W2 w9 ∧ ArR W2 na2 fa2 A2 := ⟨_, Sub.refl _, hA2.now⟩
    have hG2 := Ft.of_sub fun u s => hA2.sub s
    refine RL.ev (.move rfl) rfl rfl ?_
    refine RL.ev (.extract rfl rfl) rfl rfl ?_
    refine RL.ev (.extract rfl rfl) rfl rfl ?_
    refine RL.ev (.extract rfl rfl) rfl rfl ?_
    refine RL.alloc ze28 rfl rfl (fun b_12 w_12 e_12 z_12 hb_12 s_12 => ?_)
    have ge_12 := S.le e_12
    have n_10__12 := hb_10.ne e_12
    have S := S.trans s_12
    have geS0_12 := S0.le e_12
    have S0 := S0.trans s_12
    have geS1_12 := S1.le e_12
    have S1 := S1.trans s_12
    have hb_10 := hb_10.sub s_12
    have geS2_12 := S2.le e_12
    have S2 := S2.trans s_12
    refine RL.store sh28 rfl rfl rfl hb_12 (by exact Nat.le_of_ble_eq_true rfl) (by rfl) rfl (fun w11 z11 hb_12 a11 => ?_)
    have S := S.upd a11 ge_12
    have S0 := S0.upd a11 geS0_12
    have S1 := S1.upd a11 geS1_12
    have hb_10 := hb_10.upd a11 n_10__12
    have S2 := S2.upd a11 geS2_12
    have hb_12 : Has w11 b_12 ([.slice na2 A2.nodes.length nc2, .slice fa2 A2.free.length fc2]) _ := hb_12.now (by kernel_rfl)
    refine RL.ev (.assign rfl) rfl rfl ?_
    refine RL.ev (.assign rfl) rfl rfl ?_
    refine RL.nil (RC.back ?_)
    refine RC.seq ?_
    refine RC.region rfl ?_
    refine RL.ev (.loadR ([.slice na2 A2.nodes.length nc2, .slice fa2 A2.free.length fc2]) sh28 rfl hb_12.row rfl) rfl rfl ?_
    refine RL.ev (.move rfl) rfl rfl ?_
    refine RL.ev (.move rfl) rfl rfl ?_
    refine RL.call rfl ok30 (c_tdel A2 na2 fa2 nc2 fc2 hn2 hf2 r2 kk hU2 hki _ w11 (hG2.sub S2)) rfl rfl ?_
    rintro _ w12 ⟨s13, na3, fa3, nc3, fc3, A3, r3, e3, M3, rfl, hU3, hn3, hf3, hA3, _, hp3⟩
    have S := S.trans s13
    have S0 := S0.trans s13
    have S1 := S1.trans s13
    have hb_10 := hb_10.sub s13
    have S2 := S2.trans s13
    have hb_12 := hb_12.sub s13
    obtain ⟨rfl, hE3, hok3, hF3, hT3⟩ := ((del_two hp3 hM2 hT2).2 ⟨⟨kk, v⟩, by unfold putL; simp, rfl⟩).resolve_left (fun h => by omega)
    rw [delL_putL hRs] at hT3
    have hl3 : (delL R kk).length ≤ R.length := List.length_filter_le _ _
    obtain ⟨W3, S3, hA3⟩ : ∃ W3, Sub W3 w12 ∧ ArR W3 na3 fa3 A3 := ⟨_, Sub.refl _, hA3.now⟩
    refine RL.ev (.move rfl) rfl rfl ?_
    refine RL.ev (.extract rfl rfl) rfl rfl ?_
    refine RL.ev (.extract rfl rfl) rfl rfl ?_
    refine RL.ev (.extract rfl rfl) rfl rfl ?_
    refine RL.alloc ze28 rfl rfl (fun b_15 w_15 e_15 z_15 hb_15 s_15 => ?_)
    have ge_15 := S.le e_15
    have n_10__15 := hb_10.ne e_15
    have n_12__15 := hb_12.ne e_15
    have S := S.trans s_15
    have geS0_15 := S0.le e_15
    have S0 := S0.trans s_15
    have geS1_15 := S1.le e_15
    have S1 := S1.trans s_15
    have hb_10 := hb_10.sub s_15
    have geS2_15 := S2.le e_15
    have S2 := S2.trans s_15
    have hb_12 := hb_12.sub s_15
    have geS3_15 := S3.le e_15
    have S3 := S3.trans s_15
    refine RL.store sh28 rfl rfl rfl hb_15 (by exact Nat.le_of_ble_eq_true rfl) (by rfl) rfl (fun w14 z14 hb_15 a14 => ?_)
    have S := S.upd a14 ge_15
    have S0 := S0.upd a14 geS0_15
    have S1 := S1.upd a14 geS1_15
    have hb_10 := hb_10.upd a14 n_10__15
    have S2 := S2.upd a14 geS2_15
    have hb_12 := hb_12.upd a14 n_12__15
    have S3 := S3.upd a14 geS3_15
    have hb_15 : Has w14 b_15 ([.slice na3 A3.nodes.length nc3, .slice fa3 A3.free.length fc3]) _ := hb_15.now (by kernel_rfl)
    refine RL.ev (.assign rfl) rfl rfl ?_
    refine RL.ev (.assign rfl) rfl rfl ?_
    refine RL.nil (RC.back ?_)
    refine RC.seq ?_
    refine RC.region rfl ?_
    refine RL.ev (.loadR ([.slice na2 A2.nodes.length nc2, .slice fa2 A2.free.length fc2]) sh28 rfl hb_12.row rfl) rfl rfl ?_
    refine RL.ev (.move rfl) rfl rfl ?_
    refine RL.ev (.move rfl) rfl rfl ?_
    refine RL.ev (.move rfl) rfl rfl ?_
    refine RL.call rfl ok27 (c_tput A2 na2 fa2 nc2 fc2 hn2 hf2 r2 kk v hU2 hki hv _ w14 (hG2.sub S2)) rfl rfl ?_
    rintro _ w15 ⟨s16, na4, fa4, nc4, fc4, A4, r4, e4, M4, rfl, hU4, hn4, hf4, hA4, _, hp4⟩
    have S := S.trans s16
    have S0 := S0.trans s16
    have S1 := S1.trans s16
    have hb_10 := hb_10.sub s16
    have S2 := S2.trans s16
    have hb_12 := hb_12.sub s16
    have S3 := S3.trans s16
    have hb_15 := hb_15.sub s16
    obtain ⟨rfl, hE4, hok4, hF4, hT4, hM4⟩ := hp4.good hM2 hT2 (by omega) (by omega) (by omega)
    rw [putL_putL] at hT4
    obtain ⟨W4, S4, hA4⟩ : ∃ W4, Sub W4 w15 ∧ ArR W4 na4 fa4 A4 := ⟨_, Sub.refl _, hA4.now⟩
    refine RL.ev (.move rfl) rfl rfl ?_
    refine RL.ev (.extract rfl rfl) rfl rfl ?_
    refine RL.ev (.extract rfl rfl) rfl rfl ?_
    refine RL.ev (.extract rfl rfl) rfl rfl ?_
    refine RL.alloc ze28 rfl rfl (fun b_18 w_18 e_18 z_18 hb_18 s_18 => ?_)
    have ge_18 := S.le e_18
    have n_10__18 := hb_10.ne e_18
    have n_12__18 := hb_12.ne e_18
    have n_15__18 := hb_15.ne e_18
    have S := S.trans s_18
    have geS0_18 := S0.le e_18
    have S0 := S0.trans s_18
    have geS1_18 := S1.le e_18
    have S1 := S1.trans s_18
    have hb_10 := hb_10.sub s_18
    have geS2_18 := S2.le e_18
    have S2 := S2.trans s_18
    have hb_12 := hb_12.sub s_18
    have geS3_18 := S3.le e_18
    have S3 := S3.trans s_18
    have hb_15 := hb_15.sub s_18
    have geS4_18 := S4.le e_18
    have S4 := S4.trans s_18
    refine RL.store sh28 rfl rfl rfl hb_18 (by exact Nat.le_of_ble_eq_true rfl) (by rfl) rfl (fun w17 z17 hb_18 a17 => ?_)
    have S := S.upd a17 ge_18
    have S0 := S0.upd a17 geS0_18
    have S1 := S1.upd a17 geS1_18
    have hb_10 := hb_10.upd a17 n_10__18
    have S2 := S2.upd a17 geS2_18
    have hb_12 := hb_12.upd a17 n_12__18
    have S3 := S3.upd a17 geS3_18
    have hb_15 := hb_15.upd a17 n_15__18
    have S4 := S4.upd a17 geS4_18
    have hb_18 : Has w17 b_18 ([.slice na4 A4.nodes.length nc4, .slice fa4 A4.free.length fc4]) _ := hb_18.now (by kernel_rfl)
    refine RL.ev (.assign rfl) rfl rfl ?_
    refine RL.ev (.assign rfl) rfl rfl ?_
    refine RL.nil (RC.back ?_)
    refine RC.seq ?_
    refine RC.region rfl ?_
    refine RL.ev (.loadR ([.slice na1 A1.nodes.length nc1, .slice fa1 A1.free.length fc1]) sh28 rfl hb_10.row rfl) rfl rfl ?_
    refine RL.ev (.move rfl) rfl rfl ?_
    refine RL.ev (.move rfl) rfl rfl ?_
    refine RL.call rfl ok33 (c_tsplit A1 na1 fa1 nc1 fc1 hn1 hf1 r1 kk hU1 hki _ w17 (hG1.sub S1)) rfl rfl ?_
    rintro _ w18 ⟨s19, na5, fa5, nc5, fc5, A5, r5, r6, e5, M5, rfl, hU5, hU6, hn5, hf5, hA5, _, _, _, hP5⟩
    have S := S.trans s19
    have S0 := S0.trans s19
    have S1 := S1.trans s19
    have hb_10 := hb_10.sub s19
    have S2 := S2.trans s19
    have hb_12 := hb_12.sub s19
    have S3 := S3.trans s19
    have hb_15 := hb_15.sub s19
    have S4 := S4.trans s19
    have hb_18 := hb_18.sub s19
    obtain ⟨rfl, hE5, hok5, hF5, hT5, hT6⟩ := (hP5 R hM1 hT1).resolve_left (fun h => by omega)
    have hl5 := ltge_len hRs kk
    have hm5 := hok5.most
    obtain ⟨W5, S5, hA5⟩ : ∃ W5, Sub W5 w18 ∧ ArR W5 na5 fa5 A5 := ⟨_, Sub.refl _, hA5.now⟩
    refine RL.ev (.move rfl) rfl rfl ?_
    refine RL.ev (.extract rfl rfl) rfl rfl ?_
    refine RL.ev (.extract rfl rfl) rfl rfl ?_
    refine RL.ev (.extract rfl rfl) rfl rfl ?_
    refine RL.ev (.extract rfl rfl) rfl rfl ?_
    refine RL.alloc ze28 rfl rfl (fun b_21 w_21 e_21 z_21 hb_21 s_21 => ?_)
    have ge_21 := S.le e_21
    have n_10__21 := hb_10.ne e_21
    have n_12__21 := hb_12.ne e_21
    have n_15__21 := hb_15.ne e_21
    have n_18__21 := hb_18.ne e_21
    have S := S.trans s_21
    have geS0_21 := S0.le e_21
    have S0 := S0.trans s_21
    have geS1_21 := S1.le e_21
    have S1 := S1.trans s_21
    have hb_10 := hb_10.sub s_21
    have geS2_21 := S2.le e_21
    have S2 := S2.trans s_21
    have hb_12 := hb_12.sub s_21
    have geS3_21 := S3.le e_21
    have S3 := S3.trans s_21
    have hb_15 := hb_15.sub s_21
    have geS4_21 := S4.le e_21
    have S4 := S4.trans s_21
    have hb_18 := hb_18.sub s_21
    have geS5_21 := S5.le e_21
    have S5 := S5.trans s_21
    refine RL.store sh28 rfl rfl rfl hb_21 (by exact Nat.le_of_ble_eq_true rfl) (by rfl) rfl (fun w20 z20 hb_21 a20 => ?_)
    have S := S.upd a20 ge_21
    have S0 := S0.upd a20 geS0_21
    have S1 := S1.upd a20 geS1_21
    have hb_10 := hb_10.upd a20 n_10__21
    have S2 := S2.upd a20 geS2_21
    have hb_12 := hb_12.upd a20 n_12__21
    have S3 := S3.upd a20 geS3_21
    have hb_15 := hb_15.upd a20 n_15__21
    have S4 := S4.upd a20 geS4_21
    have hb_18 := hb_18.upd a20 n_18__21
    have S5 := S5.upd a20 geS5_21
    have hb_21 : Has w20 b_21 ([.slice na5 A5.nodes.length nc5, .slice fa5 A5.free.length fc5]) _ := hb_21.now (by kernel_rfl)
    refine RL.ev (.assign rfl) rfl rfl ?_
    refine RL.ev (.assign rfl) rfl rfl ?_
    refine RL.ev (.assign rfl) rfl rfl ?_
    refine RL.nil (RC.back ?_)
    refine RC.seq ?_
    refine RC.drawD (fun k => False) [] w20.heap.size 49 rfl rfl mxo (fun w21 s22 => ?_)
    have hNN : ∀ k, ((False) ∨ w20.heap.size ≤ k) → w.heap.size ≤ k := fun k e => e.elim (fun e => e.elim) (fun e => Nat.le_trans S.size e)
    have ent_S := S.size
    have ent_S0 := S0.size
    have ent_S1 := S1.size
    have ent_S2 := S2.size
    have ent_S3 := S3.size
    have ent_S4 := S4.size
    have ent_S5 := S5.size
    have hN0 : ∀ k, w20.heap.size ≤ k → w.heap.size ≤ k := fun k e => Nat.le_trans S.size e
    have ltD_b_10 := hb_10.lt
    have ltD_b_12 := hb_12.lt
    have ltD_b_15 := hb_15.lt
    have ltD_b_18 := hb_18.lt
    have ltD_b_21 := hb_21.lt
    have szD := Nat.le_refl w20.heap.size
    have S := S.trans s22
    have S0 := S0.trans s22
    have S1 := S1.trans s22
    have hb_10 := hb_10.sub s22
    have S2 := S2.trans s22
    have hb_12 := hb_12.sub s22
    have S3 := S3.trans s22
    have hb_15 := hb_15.sub s22
    have S4 := S4.trans s22
    have hb_18 := hb_18.sub s22
    have S5 := S5.trans s22
    have hb_21 := hb_21.sub s22
    have szD := Nat.le_trans szD s22.size
    refine RD.all [0] (by kernel_rfl) rfl (RDs.cons rfl ?_ (RDs.nil))
    refine RL.call rfl ok28 (c_alive6 w21) rfl rfl ?_
    rintro _ w23 ⟨rfl, s24⟩
    have S := S.trans s24
    have S0 := S0.trans s24
    have S1 := S1.trans s24
    have hb_10 := hb_10.sub s24
    have S2 := S2.trans s24
    have hb_12 := hb_12.sub s24
    have S3 := S3.trans s24
    have hb_15 := hb_15.sub s24
    have S4 := S4.trans s24
    have hb_18 := hb_18.sub s24
    have S5 := S5.trans s24
    have hb_21 := hb_21.sub s24
    have szD := Nat.le_trans szD s24.size
    refine RD.back s24.agr ?_
    refine RD.take 1 rfl (by kernel_rfl) (by kernel_rfl) (by kernel_rfl) (fun w' s' => .move rfl) rfl rfl ?_
    refine RD.take 2 rfl (by kernel_rfl) (by kernel_rfl) (by kernel_rfl) (fun w' s' => .move rfl) rfl rfl ?_
    refine RD.take 3 rfl (by kernel_rfl) (by kernel_rfl) (by kernel_rfl) (fun w' s' => .as (v' := .bool true) (.bin rfl rfl rfl) (congrArg Value.bool (decide_eq_true (rfl)))) rfl rfl ?_
    refine RD.take 4 rfl (by kernel_rfl) (by kernel_rfl) (by kernel_rfl) (fun w' s' => .pick_t rfl rfl) rfl rfl ?_
    refine RD.take 5 rfl (by kernel_rfl) (by kernel_rfl) (by kernel_rfl) (fun w' s' => .move rfl) rfl rfl ?_
    refine RD.take 6 rfl (by kernel_rfl) (by kernel_rfl) (by kernel_rfl) (fun w' s' => .move rfl) rfl rfl ?_
    refine RD.take 7 rfl (by kernel_rfl) (by kernel_rfl) (by kernel_rfl) (fun w' s' => .as (v' := .bool true) (.bin rfl rfl rfl) (congrArg Value.bool (decide_eq_true (rfl)))) rfl rfl ?_
    refine RD.take 8 rfl (by kernel_rfl) (by kernel_rfl) (by kernel_rfl) (fun w' s' => .pick_t rfl rfl) rfl rfl ?_
    refine RD.take 9 rfl (by kernel_rfl) (by kernel_rfl) (by kernel_rfl) (fun w' s' => .move rfl) rfl rfl ?_
    refine RD.take 10 rfl (by kernel_rfl) (by kernel_rfl) (by kernel_rfl) (fun w' s' => .move rfl) rfl rfl ?_
    refine RD.take 11 rfl (by kernel_rfl) (by kernel_rfl) (by kernel_rfl) (fun w' s' => .as (v' := .bool true) (.bin rfl rfl rfl) (congrArg Value.bool (decide_eq_true (rfl)))) rfl rfl ?_
    refine RD.take 12 rfl (by kernel_rfl) (by kernel_rfl) (by kernel_rfl) (fun w' s' => .pick_t rfl rfl) rfl rfl ?_
    refine RD.take 13 rfl (by kernel_rfl) (by kernel_rfl) (by kernel_rfl) (fun w' s' => .move rfl) rfl rfl ?_
    refine RD.take 14 rfl (by kernel_rfl) (by kernel_rfl) (by kernel_rfl) (fun w' s' => .move rfl) rfl rfl ?_
    refine RD.take 15 rfl (by kernel_rfl) (by kernel_rfl) (by kernel_rfl) (fun w' s' => .as (v' := .bool true) (.bin rfl rfl rfl) (congrArg Value.bool (decide_eq_true (rfl)))) rfl rfl ?_
    refine RD.take 16 rfl (by kernel_rfl) (by kernel_rfl) (by kernel_rfl) (fun w' s' => .pick_t rfl rfl) rfl rfl ?_
    refine RD.take 17 rfl (by kernel_rfl) (by kernel_rfl) (by kernel_rfl) (fun w' s' => .move rfl) rfl rfl ?_
    refine RD.take 18 rfl (by kernel_rfl) (by kernel_rfl) (by kernel_rfl) (fun w' s' => .loadR ([.slice na3 A3.nodes.length nc3, .slice fa3 A3.free.length fc3]) sh28 rfl (hb_15.step s' (fun e => e.elim (fun e => e.elim) (fun e => Nat.not_le.2 ltD_b_15 e))).row rfl) rfl rfl ?_
    refine RD.take 19 rfl (by kernel_rfl) (by kernel_rfl) (by kernel_rfl) (fun w' s' => .move rfl) rfl rfl ?_
    refine RD.take 20 rfl (by kernel_rfl) (by kernel_rfl) (by kernel_rfl) (fun w' s' => .move rfl) rfl rfl ?_
    refine RD.take 21 rfl (by kernel_rfl) (by kernel_rfl) (by kernel_rfl) (fun w' s' => .move rfl) rfl rfl ?_
    refine RD.all [22] (by kernel_rfl) rfl (RDs.cons rfl ?_ (RDs.nil))
    refine RL.call rfl ok31 (c_refDel R ra rc rm hm kk w23 (hr.sub S0) (by omega)) rfl rfl ?_
    rintro _ w25 ⟨da, dc, rfl, o7, s26⟩
    have S := S.trans s26
    have S0 := S0.trans s26
    have S1 := S1.trans s26
    have hb_10 := hb_10.sub s26
    have S2 := S2.trans s26
    have hb_12 := hb_12.sub s26
    have S3 := S3.trans s26
    have hb_15 := hb_15.sub s26
    have S4 := S4.trans s26
    have hb_18 := hb_18.sub s26
    have S5 := S5.trans s26
    have hb_21 := hb_21.sub s26
    have szD := Nat.le_trans szD s26.size
    have hdc : (delL R kk).length ≤ dc := (by obtain ⟨_, c', e, h⟩ := o7.form; cases e; rw [List.length_map] at h; exact h)
    obtain ⟨W7, S7, hd⟩ : ∃ W7, Sub W7 w25 ∧ Sl W7 da 2 ((delL R kk).map It.cells) := ⟨_, Sub.refl _, o7.sl.1⟩
    refine RD.back s26.agr ?_
    refine RD.all [23] (by kernel_rfl) rfl (RDs.cons rfl ?_ (RDs.nil))
    refine RL.call rfl ok29 (c_isYes A3 na3 fa3 nc3 fc3 hok3 r3 (delL R kk) da dc _ (List.length_map _) hdc hU3 (by omega) hT3 w25 (hA3.sub S3) (hd.sub S7)) rfl rfl ?_
    rintro _ w27 ⟨rfl, s28⟩
    have S := S.trans s28
    have S0 := S0.trans s28
    have S1 := S1.trans s28
    have hb_10 := hb_10.sub s28
    have S2 := S2.trans s28
    have hb_12 := hb_12.sub s28
    have S3 := S3.trans s28
    have hb_15 := hb_15.sub s28
    have S4 := S4.trans s28
    have hb_18 := hb_18.sub s28
    have S5 := S5.trans s28
    have hb_21 := hb_21.sub s28
    have szD := Nat.le_trans szD s28.size
    have S7 := S7.trans s28
    refine RD.back s28.agr ?_
    refine RD.take 24 rfl (by kernel_rfl) (by kernel_rfl) (by kernel_rfl) (fun w' s' => .pick_t rfl rfl) rfl rfl ?_
    refine RD.take 25 rfl (by kernel_rfl) (by kernel_rfl) (by kernel_rfl) (fun w' s' => .move rfl) rfl rfl ?_
    refine RD.take 26 rfl (by kernel_rfl) (by kernel_rfl) (by kernel_rfl) (fun w' s' => .loadR ([.slice na4 A4.nodes.length nc4, .slice fa4 A4.free.length fc4]) sh28 rfl (hb_18.step s' (fun e => e.elim (fun e => e.elim) (fun e => Nat.not_le.2 ltD_b_18 e))).row rfl) rfl rfl ?_
    refine RD.take 27 rfl (by kernel_rfl) (by kernel_rfl) (by kernel_rfl) (fun w' s' => .move rfl) rfl rfl ?_
    refine RD.take 28 rfl (by kernel_rfl) (by kernel_rfl) (by kernel_rfl) (fun w' s' => .move rfl) rfl rfl ?_
    refine RD.take 29 rfl (by kernel_rfl) (by kernel_rfl) (by kernel_rfl) (fun w' s' => .move rfl) rfl rfl ?_
    refine RD.take 30 rfl (by kernel_rfl) (by kernel_rfl) (by kernel_rfl) (fun w' s' => .move rfl) rfl rfl ?_
    refine RD.all [31] (by kernel_rfl) rfl (RDs.cons rfl ?_ (RDs.nil))
    refine RL.call rfl ok13 (c_refPut R ra rc rm hm kk v w27 (hr.sub S0) (by omega)) rfl rfl ?_
    rintro vr w29 ⟨qa, qc, hvr, o8, s30⟩
    have S := S.trans s30
    have S0 := S0.trans s30
    have S1 := S1.trans s30
    have hb_10 := hb_10.sub s30
    have S2 := S2.trans s30
    have hb_12 := hb_12.sub s30
    have S3 := S3.trans s30
    have hb_15 := hb_15.sub s30
    have S4 := S4.trans s30
    have hb_18 := hb_18.sub s30
    have S5 := S5.trans s30
    have hb_21 := hb_21.sub s30
    have szD := Nat.le_trans szD s30.size
    have S7 := S7.trans s30
    rw [putR_putL hRs] at hvr o8
    subst hvr
    have hqc : (putL R kk v).length ≤ qc := (by obtain ⟨_, c', e, h⟩ := o8.form; cases e; rw [List.length_map] at h; exact h)
    obtain ⟨W8, S8, hq⟩ : ∃ W8, Sub W8 w29 ∧ Sl W8 qa 2 ((putL R kk v).map It.cells) := ⟨_, Sub.refl _, o8.sl.1⟩
    refine RD.back s30.agr ?_
    refine RD.all [32] (by kernel_rfl) rfl (RDs.cons rfl ?_ (RDs.nil))
    refine RL.call rfl ok29 (c_isYes A4 na4 fa4 nc4 fc4 hok4 r4 (putL R kk v) qa qc _ (List.length_map _) hqc hU4 (by omega) hT4 w29 (hA4.sub S4) (hq.sub S8)) rfl rfl ?_
    rintro _ w31 ⟨rfl, s32⟩
    have S := S.trans s32
    have S0 := S0.trans s32
    have S1 := S1.trans s32
    have hb_10 := hb_10.sub s32
    have S2 := S2.trans s32
    have hb_12 := hb_12.sub s32
    have S3 := S3.trans s32
    have hb_15 := hb_15.sub s32
    have S4 := S4.trans s32
    have hb_18 := hb_18.sub s32
    have S5 := S5.trans s32
    have hb_21 := hb_21.sub s32
    have szD := Nat.le_trans szD s32.size
    have S7 := S7.trans s32
    have S8 := S8.trans s32
    refine RD.back s32.agr ?_
    refine RD.take 33 rfl (by kernel_rfl) (by kernel_rfl) (by kernel_rfl) (fun w' s' => .pick_t rfl rfl) rfl rfl ?_
    refine RD.take 34 rfl (by kernel_rfl) (by kernel_rfl) (by kernel_rfl) (fun w' s' => .move rfl) rfl rfl ?_
    refine RD.take 35 rfl (by kernel_rfl) (by kernel_rfl) (by kernel_rfl) (fun w' s' => .loadR ([.slice na5 A5.nodes.length nc5, .slice fa5 A5.free.length fc5]) sh28 rfl (hb_21.step s' (fun e => e.elim (fun e => e.elim) (fun e => Nat.not_le.2 ltD_b_21 e))).row rfl) rfl rfl ?_
    refine RD.take 36 rfl (by kernel_rfl) (by kernel_rfl) (by kernel_rfl) (fun w' s' => .move rfl) rfl rfl ?_
    refine RD.take 39 rfl (by kernel_rfl) (by kernel_rfl) (by kernel_rfl) (fun w' s' => .loadR ([.slice na5 A5.nodes.length nc5, .slice fa5 A5.free.length fc5]) sh28 rfl (hb_21.step s' (fun e => e.elim (fun e => e.elim) (fun e => Nat.not_le.2 ltD_b_21 e))).row rfl) rfl rfl ?_
    refine RD.take 40 rfl (by kernel_rfl) (by kernel_rfl) (by kernel_rfl) (fun w' s' => .move rfl) rfl rfl ?_
    refine RD.take 44 rfl (by kernel_rfl) (by kernel_rfl) (by kernel_rfl) (fun w' s' => .move rfl) rfl rfl ?_
    refine RD.take 45 rfl (by kernel_rfl) (by kernel_rfl) (by kernel_rfl) (fun w' s' => .as (v' := .int .i64 (R.length : Int)) (.len sl23 rfl) (by rw [hm])) rfl rfl ?_
    refine RD.all [37] (by kernel_rfl) rfl (RDs.cons rfl ?_ (RDs.nil))
    refine RL.call rfl ok24 (c_refRow A5 na5 fa5 nc5 fc5 (by omega) 202 r5 201 w31 hU5 (by decide) (by decide) (by decide) (hA5.sub S5)) rfl rfl ?_
    rintro vr w33 ⟨xa, xc, hvr, _, s34⟩
    have S := S.trans s34
    have S0 := S0.trans s34
    have S1 := S1.trans s34
    have hb_10 := hb_10.sub s34
    have S2 := S2.trans s34
    have hb_12 := hb_12.sub s34
    have S3 := S3.trans s34
    have hb_15 := hb_15.sub s34
    have S4 := S4.trans s34
    have hb_18 := hb_18.sub s34
    have S5 := S5.trans s34
    have hb_21 := hb_21.sub s34
    have szD := Nat.le_trans szD s34.size
    have S7 := S7.trans s34
    have S8 := S8.trans s34
    rw [rowF_isT hT5 202 201 (by omega) (by decide)] at hvr
    subst hvr
    refine RD.back s34.agr ?_
    refine RD.take 38 rfl (by kernel_rfl) (by kernel_rfl) (by kernel_rfl) (fun w' s' => .as (v' := .int .i64 ((ltL kk R).length : Int)) (.len sl23 rfl) (by rw [List.length_map])) rfl rfl ?_
    refine RD.all [41] (by kernel_rfl) rfl (RDs.cons rfl ?_ (RDs.nil))
    refine RL.call rfl ok24 (c_refRow A5 na5 fa5 nc5 fc5 (by omega) 202 r6 201 w33 hU6 (by decide) (by decide) (by decide) (hA5.sub S5)) rfl rfl ?_
    rintro vr w35 ⟨ya, yc, hvr, _, s36⟩
    have S := S.trans s36
    have S0 := S0.trans s36
    have S1 := S1.trans s36
    have hb_10 := hb_10.sub s36
    have S2 := S2.trans s36
    have hb_12 := hb_12.sub s36
    have S3 := S3.trans s36
    have hb_15 := hb_15.sub s36
    have S4 := S4.trans s36
    have hb_18 := hb_18.sub s36
    have S5 := S5.trans s36
    have hb_21 := hb_21.sub s36
    have szD := Nat.le_trans szD s36.size
    have S7 := S7.trans s36
    have S8 := S8.trans s36
    rw [rowF_isT hT6 202 201 (by omega) (by decide)] at hvr
    subst hvr
    refine RD.back s36.agr ?_
    refine RD.take 42 rfl (by kernel_rfl) (by kernel_rfl) (by kernel_rfl) (fun w' s' => .as (v' := .int .i64 ((geL kk R).length : Int)) (.len sl23 rfl) (by rw [List.length_map])) rfl rfl ?_
    refine RD.take 43 rfl (by kernel_rfl) (by kernel_rfl) (by kernel_rfl) (fun w' s' => .as (.bin rfl rfl rfl) (wi64 (y := (R.length : Int)) (by omega) (by omega))) rfl rfl ?_
    refine RD.take 46 rfl (by kernel_rfl) (by kernel_rfl) (by kernel_rfl) (fun w' s' => .as (v' := .bool true) (.bin rfl rfl rfl) (congrArg Value.bool (decide_eq_true (rfl)))) rfl rfl ?_
    refine RD.take 47 rfl (by kernel_rfl) (by kernel_rfl) (by kernel_rfl) (fun w' s' => .pick_t rfl rfl) rfl rfl ?_
    refine RD.take 48 rfl (by kernel_rfl) (by kernel_rfl) (by kernel_rfl) (fun w' s' => .assign rfl) rfl rfl ?_
    refine RD.done (by kernel_rfl) (RC.back ?_)
    refine RC.done (rs := [.tmp 6]) (vs := [_]) rfl rfl ⟨rfl, trivial⟩ ?_
    -- end 1
    exact ⟨rfl, S⟩
end Go.Proofs.Ytekdjjppdijkmaa
