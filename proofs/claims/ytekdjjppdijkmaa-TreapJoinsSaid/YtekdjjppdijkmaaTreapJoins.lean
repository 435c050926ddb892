/-
  The statement TreapJoins.
-/
import Derived.Test.YtekdjjppdijkmaaTreapAgain
set_option linter.unusedVariables false
set_option linter.unusedSimpArgs false
namespace Go.Proofs.Ytekdjjppdijkmaa
open Go Go.XL

theorem filter_step {p : It → Bool} {l : List It} {i : Nat} {x : It} (h : l[i]? = some x) : (l.take (i + 1)).filter p = (l.take i).filter p ++ (if p x then [x] else []) := by
  rw [List.take_add_one, h]
  simp only [Option.toList, List.filter_append, List.filter_cons, List.filter_nil]
theorem ltgeL (lo hi : Int) (R : List It) : ltL hi (geL lo R) = R.filter fun x => decide (lo ≤ x.k) && decide (x.k < hi) := by
  unfold ltL geL
  rw [List.filter_filter]
  exact List.filter_congr fun y _ => Bool.and_comm _ _
theorem lt2_ge (lo hi : Int) (R : List It) : Lt2 (ltL lo R) (ltL hi (geL lo R)) := fun x hx y hy => ltge_lt2 R lo x hx y (filter_sub hy)
theorem lt2_ge2 {lo hi : Int} (h : lo ≤ hi) (R : List It) : Lt2 (ltL lo R ++ ltL hi (geL lo R)) (geL hi (geL lo R)) := by
  intro x hx y hy
  have h2 := (List.mem_filter.1 hy).2
  simp at h2
  rcases List.mem_append.1 hx with hx | hx
  · have h1 := (List.mem_filter.1 hx).2; simp at h1; omega
  · have h1 := (List.mem_filter.1 hx).2; simp at h1; omega
set_option maxHeartbeats 4000000 in
theorem law_TreapJoins (w : World) (l : List Int) (pa : Option Addr) (pc : Nat) (hlc : l.length ≤ pc) (hcm : pc ≤ maxLen) (hs : Sl w pa 1 (l.map fun x => [i6 x])) (hli : ∀ x ∈ l, I64 x) (p : Int) (wp : (Lit.int .i64 p).wf = true) (q : Int) (wq : (Lit.int .i64 q).wf = true) :
    FC Try.prog 9 [.slice pa l.length pc, .int .i64 p, .int .i64 q] w (Val (.bool true) w) := by
  have hp : -9223372036854775808 ≤ p ∧ p ≤ 9223372036854775807 := wfI wp
  have hq : -9223372036854775808 ≤ q ∧ q ≤ 9223372036854775807 := wfI wq
  have hll : l.length ≤ 9223372036854775807 := Nat.le_trans hlc (Nat.le_trans hcm (by decide))
  obtain ⟨lo, hlo⟩ : ∃ lo, lo = (if q.tmod 80 < p.tmod 80 then q.tmod 80 else p.tmod 80) := ⟨_, rfl⟩
  obtain ⟨up, hup⟩ : ∃ up, up = (if p.tmod 80 < q.tmod 80 then q.tmod 80 else p.tmod 80) := ⟨_, rfl⟩
  have hlu : lo ≤ up := by rw [hlo, hup]; split <;> split <;> omega
  have np := norm_mod p 80 (by decide)
  have nq := norm_mod q 80 (by decide)
  have hil : I64 lo := by unfold I64; rw [hlo]; split <;> omega
  have hiu : I64 up := by unfold I64; rw [hup]; split <;> omega
  refine FC.intro Try.func9 rfl Try.ntmps9 rfl ?_
  have S := Sub.refl w
  refine RC.seq ?_
  refine RC.region rfl ?_
  refine RL.ev (.assign rfl) rfl rfl ?_
  refine RL.nil (RC.back ?_)
  refine RC.seq ?_
  refine RC.region rfl ?_
  refine RL.buildSlice0 sl23 rfl rfl (fun b_29 w_29 e_29 z_29 hb_29 s_29 => ?_)
  have ge_29 := S.le e_29
  have S := S.trans s_29
  refine RL.ev (.assign rfl) rfl rfl ?_
  refine RL.nil (RC.back ?_)
  refine RC.seq ?_
  refine RC.seq ?_
  refine RC.region rfl ?_
  refine RL.ev (.move rfl) rfl rfl ?_
  refine RL.ev (.len sl22 rfl) rfl rfl ?_
  refine RL.ev (.move rfl) rfl rfl ?_
  refine RL.nil (RC.back ?_)
  refine RC.block ?_
  refine RC.loop (α := Nat × Option Addr × Nat × Nat) (fun x => [(1, .int .i64 p), (2, .int .i64 q), (7, .slice x.2.1 x.2.2.1 x.2.2.2), (30, .slice pa l.length pc), (31, .int .i64 (l.length : Int)), (32, .int .i64 (x.1 : Int))]) (fun x w1 => (x.1 ≤ l.length ∧ x.2.2.1 = (rowN m60 idI 16 l x.1).length ∧ (rowN m60 idI 16 l x.1).length ≤ x.2.2.2) ∧ Sl w1 x.2.1 2 ((rowN m60 idI 16 l x.1).map It.cells) ∧ Sub w w1) (fun x => l.length - x.1) (0, some ⟨b_29, 0, none⟩, 0, 0) (keep_of (by repeat (first | exact trivial | refine And.intro rfl ?_))) (⟨⟨Nat.zero_le _, rfl, Nat.zero_le _⟩, (Ows.lit0 (base := 0) (sz := 2) hb_29 (Nat.zero_le _)).sl.1, S⟩) (fun x w1 hJ => ?_)
  obtain ⟨i, ra, rm, rc⟩ := x; obtain ⟨⟨hi, hm, hc⟩, hr, S⟩ := hJ; simp only [] at hi hm hc hr; have hrl := rowN_len m60 idI 16 l i
  refine RC.seq ?_
  refine RC.region rfl ?_
  refine RL.ev (.bin rfl rfl rfl) rfl rfl ?_
  refine RL.nil (RC.back ?_)
  refine RC.seq ?_
  refine RC.cond_dec rfl (fun h2 => ?_) (fun h2 => ?_)
  ·
    obtain ⟨x, hx⟩ := getSome (l := l) (i := i) (by omega)
    have hxi : -9223372036854775808 ≤ x ∧ x ≤ 9223372036854775807 := hli x (List.mem_of_getElem? hx)
    have nmx := norm_mod x 60 (by decide)
    refine RC.skip (RC.back ?_)
    refine RC.seq ?_
    refine RC.block ?_
    refine RC.seq ?_
    refine RC.region rfl ?_
    refine RL.ev (.move rfl) rfl rfl ?_
    refine RL.ev (.indexS sl22 rfl rfl (by omega) (hs.is (i := 0) (by simp only [List.length_map]; omega))) rfl rfl ?_
    refine RL.ev (.load1 sh2 rfl ((hs.sub S).one (enc := i6) (i := i) hx)) rfl rfl ?_
    refine RL.ev (.assign rfl) rfl rfl ?_
    refine RL.ev (.assign rfl) rfl rfl ?_
    refine RL.nil (RC.back ?_)
    refine RC.seq ?_
    refine RC.region rfl ?_
    refine RL.ev (.move rfl) rfl rfl ?_
    refine RL.ev (.bin rfl rfl rfl) rfl rfl ?_
    refine RL.nil (RC.back ?_)
    refine RC.cond_dec rfl (fun h3 => ?_) (fun h3 => ?_)
    ·
      have hlt : i < 16 := (by omega)
      refine RC.region rfl ?_
      refine RL.ev (.move rfl) rfl rfl ?_
      refine RL.ev (.move rfl) rfl rfl ?_
      refine RL.ev (.rem rfl rfl (by decide)) rfl rfl ?_
      refine RL.ev (.as (.bin rfl rfl rfl) (wi64 (y := x.tmod 60 + 60) (by rfl) (by omega))) rfl rfl ?_
      refine RL.ev (.as (v' := .int .i64 (x % 60)) (.rem rfl rfl (by decide)) (by rw [nmx.2.2])) rfl rfl ?_
      refine RL.ev (.move rfl) rfl rfl ?_
      refine RL.call rfl ok13 (c_refPut (rowN m60 idI 16 l i) ra rc rm hm (x % 60) (i : Int) w1 (hr) (by omega)) rfl rfl ?_
      rintro vr w4 ⟨a1, c1, hvr, o1, s5⟩
      have S := S.trans s5
      rw [← show rowN m60 idI 16 l (i + 1) = putR (rowN m60 idI 16 l i) (x % 60) (i : Int) from rowN_put hx hlt] at hvr o1
      subst hvr
      have hc1 : (rowN m60 idI 16 l (i + 1)).length ≤ c1 := (by obtain ⟨_, c', e, h⟩ := o1.form; cases e; rw [List.length_map] at h; exact h)
      refine RL.ev (.assign rfl) rfl rfl ?_
      refine RL.nil (RC.back ?_)
      refine RC.region rfl ?_
      refine RL.ev (.as (.bin rfl rfl rfl) (wi64 (y := ((i + 1 : Nat) : Int)) (by omega) (by omega))) rfl rfl ?_
      refine RL.ev (.move rfl) rfl rfl ?_
      exact RL.nil (fun a ka => ⟨(i + 1, a1, _, c1), ⟨⟨by omega, List.length_map _, hc1⟩, o1.sl.1, S⟩, by omega, ka.keep (keep_of (by repeat (first | exact trivial | refine And.intro rfl ?_)))⟩)
    ·
      have hge : ¬ i < 16 := (by omega)
      rw [← rowN_stay hge] at hm hc hr
      refine RC.skip (RC.back ?_)
      refine RC.region rfl ?_
      refine RL.ev (.as (.bin rfl rfl rfl) (wi64 (y := ((i + 1 : Nat) : Int)) (by omega) (by omega))) rfl rfl ?_
      refine RL.ev (.move rfl) rfl rfl ?_
      exact RL.nil (fun a ka => ⟨(i + 1, ra, rm, rc), ⟨⟨by omega, hm, hc⟩, hr, S⟩, by omega, ka.keep (keep_of (by repeat (first | exact trivial | refine And.intro rfl ?_)))⟩)
  ·
    obtain rfl : i = l.length := (by omega)
    have hRs := rowN_srt m60 idI 16 l l.length
    have hRok := rowN_all (f := m60) (g := idI) (most := 16) (l := l) (P := It.ok) (fun x hx i hi => ⟨by unfold I64; show _ ≤ x % 60 ∧ x % 60 ≤ _; omega, by unfold I64; show _ ≤ (i : Int) ∧ (i : Int) ≤ _; omega⟩) l.length (Nat.le_refl _)
    obtain ⟨R, hR⟩ : ∃ R, rowN m60 idI 16 l l.length = R := ⟨_, rfl⟩
    rw [hR] at hm hc hr hrl hRs hRok
    have hR16 := hrl.1
    obtain ⟨W0, S0, hr⟩ : ∃ W, Sub W w1 ∧ Sl W ra 2 (R.map It.cells) := ⟨_, Sub.refl _, hr⟩
    refine RC.exit rfl (RC.back ?_)
    refine RC.seq ?_
    refine RC.region rfl ?_
    refine RL.ev (.move rfl) rfl rfl ?_
    refine RL.ev (.rem rfl rfl (by decide)) rfl rfl ?_
    refine RL.ev (.move rfl) rfl rfl ?_
    refine RL.ev (.rem rfl rfl (by decide)) rfl rfl ?_
    refine RL.ev (.assign rfl) rfl rfl ?_
    refine RL.ev (.assign rfl) rfl rfl ?_
    refine RL.nil (RC.back ?_)
    refine RC.seq ?_
    refine RC.region rfl ?_
    refine RL.ev (.move rfl) rfl rfl ?_
    refine RL.ev (.move rfl) rfl rfl ?_
    refine RL.ev (.as (v' := .int .i64 lo) (.min2 rfl rfl) (by rw [hlo])) rfl rfl ?_
    refine RL.ev (.move rfl) rfl rfl ?_
    refine RL.ev (.move rfl) rfl rfl ?_
    refine RL.ev (.as (v' := .int .i64 up) (.max2 rfl rfl) (by rw [hup])) rfl rfl ?_
    refine RL.ev (.assign rfl) rfl rfl ?_
    refine RL.ev (.assign rfl) rfl rfl ?_
    refine RL.nil (RC.back ?_)
    refine RC.seq ?_
    refine RC.region rfl ?_
    refine RL.ev (.move rfl) rfl rfl ?_
    refine RL.call rfl ok14 (c_build 400 R ra rc rm hm hc hRs hRok (by omega) (by decide) (by decide) w1 (hr.sub S0)) rfl rfl ?_
    rintro _ w6 ⟨na1, fa1, nc1, fc1, rfl, hn1, hf1, hi1, s7⟩
    have hA1 := (hi1 (fun _ => False) (fun _ h => h.elim)).now
    have S := S.trans s7
    have S0 := S0.trans s7
    obtain ⟨A1, hAe1⟩ : ∃ A, buildA 400 R = A := ⟨_, rfl⟩
    obtain ⟨r1, hre1⟩ : ∃ r, buildR 400 R = r := ⟨_, rfl⟩
    have hB1 := build_ok (size := 400) hRs (by omega) (by decide) (by decide)
    have hM1 := build_map (size := 400) hRs (by omega) (by decide) (by decide) (by omega)
    have hT1 := hB1.isT
    have hU1 := hB1.u
    have hF1 := hB1.free
    rw [hAe1, hre1] at hT1 hM1
    rw [hre1] at hU1
    rw [hAe1] at hA1 hF1 hn1 hf1
    rw [hAe1, hre1]
    obtain ⟨W1, S1, hA1⟩ : ∃ W, Sub W w6 ∧ ArR W na1 fa1 A1 := ⟨_, Sub.refl _, hA1⟩
    have hG1 := Ft.of_sub fun u s => hA1.sub s
    refine RL.ev (.move rfl) rfl rfl ?_
    refine RL.ev (.extract rfl rfl) rfl rfl ?_
    refine RL.ev (.extract rfl rfl) rfl rfl ?_
    refine RL.alloc ze28 rfl rfl (fun b_10 w_10 e_10 z_10 hb_10 s_10 => ?_)
    have ge_10 := S.le e_10
    have S := S.trans s_10
    have geS0_10 := S0.le e_10
    have S0 := S0.trans s_10
    have geS1_10 := S1.le e_10
    have S1 := S1.trans s_10
    refine RL.store sh28 rfl rfl rfl hb_10 (by exact Nat.le_of_ble_eq_true rfl) (by rfl) rfl (fun w8 z8 hb_10 a8 => ?_)
    have S := S.upd a8 ge_10
    have S0 := S0.upd a8 geS0_10
    have S1 := S1.upd a8 geS1_10
    have hb_10 : Has w8 b_10 ([.slice na1 A1.nodes.length nc1, .slice fa1 A1.free.length fc1]) _ := hb_10.now (by kernel_rfl)
    refine RL.ev (.assign rfl) rfl rfl ?_
    refine RL.nil (RC.back ?_)
    refine RC.seq ?_
    refine RC.region rfl ?_
    refine RL.ev (.loadR ([.slice na1 A1.nodes.length nc1, .slice fa1 A1.free.length fc1]) sh28 rfl hb_10.row rfl) rfl rfl ?_
    refine RL.ev (.move rfl) rfl rfl ?_
    refine RL.ev (.move rfl) rfl rfl ?_
    refine RL.call rfl ok33 (c_tsplit A1 na1 fa1 nc1 fc1 hn1 hf1 r1 lo hU1 hil _ w8 (hG1.sub S1)) rfl rfl ?_
    rintro _ w9 ⟨s10, na2, fa2, nc2, fc2, A2, r2, r3, e2, M2, rfl, hU2, hU3, hn2, hf2, hA2, _, _, _, hP2⟩
    have S := S.trans s10
    have S0 := S0.trans s10
    have S1 := S1.trans s10
    have hb_10 := hb_10.sub s10
    obtain ⟨rfl, hE2, hok2, hF2, hT2, hT3⟩ := (hP2 R hM1 hT1).resolve_left (fun h => by omega)
    have hl2 := ltge_len hRs lo
    have hs3 : Srt (geL lo R) := hRs.sub
    have hM3 : isMap A2 r3 := ⟨hok2, _, hT3, by omega⟩
    obtain ⟨W2, S2, hA2⟩ : ∃ W2, Sub W2 w9 ∧ ArR W2 na2 fa2 A2 := ⟨_, Sub.refl _, hA2.now⟩
    have hG2 := Ft.of_sub fun u s => hA2.sub s
    refine RL.ev (.move rfl) rfl rfl ?_
    refine RL.ev (.extract rfl rfl) rfl rfl ?_
    refine RL.ev (.extract rfl rfl) rfl rfl ?_
    refine RL.ev (.extract rfl rfl) rfl rfl ?_
    refine RL.ev (.extract rfl rfl) rfl rfl ?_
    refine RL.alloc ze28 rfl rfl (fun b_12 w_12 e_12 z_12 hb_12 s_12 => ?_)
    have ge_12 := S.le e_12
    have n_10__12 := hb_10.ne e_12
    have S := S.trans s_12
    have geS0_12 := S0.le e_12
    have S0 := S0.trans s_12
    have geS1_12 := S1.le e_12
    have S1 := S1.trans s_12
    have hb_10 := hb_10.sub s_12
    have geS2_12 := S2.le e_12
    have S2 := S2.trans s_12
    refine RL.store sh28 rfl rfl rfl hb_12 (by exact Nat.le_of_ble_eq_true rfl) (by rfl) rfl (fun w11 z11 hb_12 a11 => ?_)
    have S := S.upd a11 ge_12
    have S0 := S0.upd a11 geS0_12
    have S1 := S1.upd a11 geS1_12
    have hb_10 := hb_10.upd a11 n_10__12
    have S2 := S2.upd a11 geS2_12
    have hb_12 : Has w11 b_12 ([.slice na2 A2.nodes.length nc2, .slice fa2 A2.free.length fc2]) _ := hb_12.now (by kernel_rfl)
    refine RL.ev (.assign rfl) rfl rfl ?_
    refine RL.ev (.assign rfl) rfl rfl ?_
    refine RL.ev (.assign rfl) rfl rfl ?_
    refine RL.nil (RC.back ?_)
    refine RC.seq ?_
    refine RC.region rfl ?_
    refine RL.ev (.loadR ([.slice na2 A2.nodes.length nc2, .slice fa2 A2.free.length fc2]) sh28 rfl hb_12.row rfl) rfl rfl ?_
    refine RL.ev (.move rfl) rfl rfl ?_
    refine RL.ev (.move rfl) rfl rfl ?_
    refine RL.call rfl ok33 (c_tsplit A2 na2 fa2 nc2 fc2 hn2 hf2 r3 up hU3 hiu _ w11 (hG2.sub S2)) rfl rfl ?_
    rintro _ w12 ⟨s13, na3, fa3, nc3, fc3, A3, r4, r5, e3, M3, rfl, hU4, hU5, hn3, hf3, hA3, _, _, _, hP3⟩
    have S := S.trans s13
    have S0 := S0.trans s13
    have S1 := S1.trans s13
    have hb_10 := hb_10.sub s13
    have S2 := S2.trans s13
    have hb_12 := hb_12.sub s13
    obtain ⟨rfl, hE3, hok3, hF3, hT4, hT5⟩ := (hP3 _ hM3 hT3).resolve_left (fun h => by omega)
    have hl3 := ltge_len hs3 up
    have hT2' := hE3.isT hT2
    have hM2 : isMap A3 r2 := ⟨hok3, _, hT2', by omega⟩
    have hM4 : isMap A3 r4 := ⟨hok3, _, hT4, by omega⟩
    obtain ⟨W3, S3, hA3⟩ : ∃ W3, Sub W3 w12 ∧ ArR W3 na3 fa3 A3 := ⟨_, Sub.refl _, hA3.now⟩
    have hG3 := Ft.of_sub fun u s => hA3.sub s
    refine RL.ev (.move rfl) rfl rfl ?_
    refine RL.ev (.extract rfl rfl) rfl rfl ?_
    refine RL.ev (.extract rfl rfl) rfl rfl ?_
    refine RL.ev (.extract rfl rfl) rfl rfl ?_
    refine RL.ev (.extract rfl rfl) rfl rfl ?_
    refine RL.alloc ze28 rfl rfl (fun b_16 w_16 e_16 z_16 hb_16 s_16 => ?_)
    have ge_16 := S.le e_16
    have n_10__16 := hb_10.ne e_16
    have n_12__16 := hb_12.ne e_16
    have S := S.trans s_16
    have geS0_16 := S0.le e_16
    have S0 := S0.trans s_16
    have geS1_16 := S1.le e_16
    have S1 := S1.trans s_16
    have hb_10 := hb_10.sub s_16
    have geS2_16 := S2.le e_16
    have S2 := S2.trans s_16
    have hb_12 := hb_12.sub s_16
    have geS3_16 := S3.le e_16
    have S3 := S3.trans s_16
    refine RL.store sh28 rfl rfl rfl hb_16 (by exact Nat.le_of_ble_eq_true rfl) (by rfl) rfl (fun w14 z14 hb_16 a14 => ?_)
    have S := S.upd a14 ge_16
    have S0 := S0.upd a14 geS0_16
    have S1 := S1.upd a14 geS1_16
    have hb_10 := hb_10.upd a14 n_10__16
    have S2 := S2.upd a14 geS2_16
    have hb_12 := hb_12.upd a14 n_12__16
    have S3 := S3.upd a14 geS3_16
    have hb_16 : Has w14 b_16 ([.slice na3 A3.nodes.length nc3, .slice fa3 A3.free.length fc3]) _ := hb_16.now (by kernel_rfl)
    refine RL.ev (.assign rfl) rfl rfl ?_
    refine RL.ev (.assign rfl) rfl rfl ?_
    refine RL.ev (.assign rfl) rfl rfl ?_
    refine RL.nil (RC.back ?_)
    refine RC.seq ?_
    refine RC.region rfl ?_
    refine RL.ev (.loadR ([.slice na3 A3.nodes.length nc3, .slice fa3 A3.free.length fc3]) sh28 rfl hb_16.row rfl) rfl rfl ?_
    refine RL.ev (.move rfl) rfl rfl ?_
    refine RL.ev (.move rfl) rfl rfl ?_
    refine RL.call rfl ok34 (c_tjoin A3 na3 fa3 nc3 fc3 hn3 hf3 r2 r4 hU2 hU4 _ w14 (hG3.sub S3)) rfl rfl ?_
    rintro _ w15 ⟨s16, na4, fa4, nc4, fc4, A4, r6, e4, M4, rfl, hU6, hn4, hf4, hA4, _, hp4⟩
    have S := S.trans s16
    have S0 := S0.trans s16
    have S1 := S1.trans s16
    have hb_10 := hb_10.sub s16
    have S2 := S2.trans s16
    have hb_12 := hb_12.sub s16
    have S3 := S3.trans s16
    have hb_16 := hb_16.sub s16
    obtain ⟨rfl, hE4, hok4, hF4, hT6⟩ := (join_good hp4 hM2 hM4 hT2' hT4 (fun h => h.2.2.elim (fun h => h (lt2_ge lo up R)) (fun h => by omega))).resolve_left (fun h => by omega)
    have hl4 : (ltL lo R ++ ltL up (geL lo R)).length = (ltL lo R).length + (ltL up (geL lo R)).length := List.length_append
    have hT5' := hE4.isT hT5
    have hM6 : isMap A4 r6 := ⟨hok4, _, hT6, by omega⟩
    have hM5 : isMap A4 r5 := ⟨hok4, _, hT5', by omega⟩
    obtain ⟨W4, S4, hA4⟩ : ∃ W4, Sub W4 w15 ∧ ArR W4 na4 fa4 A4 := ⟨_, Sub.refl _, hA4.now⟩
    have hG4 := Ft.of_sub fun u s => hA4.sub s
    refine RL.ev (.move rfl) rfl rfl ?_
    refine RL.ev (.extract rfl rfl) rfl rfl ?_
    refine RL.ev (.extract rfl rfl) rfl rfl ?_
    refine RL.ev (.extract rfl rfl) rfl rfl ?_
    refine RL.alloc ze28 rfl rfl (fun b_20 w_20 e_20 z_20 hb_20 s_20 => ?_)
    have ge_20 := S.le e_20
    have n_10__20 := hb_10.ne e_20
    have n_12__20 := hb_12.ne e_20
    have n_16__20 := hb_16.ne e_20
    have S := S.trans s_20
    have geS0_20 := S0.le e_20
    have S0 := S0.trans s_20
    have geS1_20 := S1.le e_20
    have S1 := S1.trans s_20
    have hb_10 := hb_10.sub s_20
    have geS2_20 := S2.le e_20
    have S2 := S2.trans s_20
    have hb_12 := hb_12.sub s_20
    have geS3_20 := S3.le e_20
    have S3 := S3.trans s_20
    have hb_16 := hb_16.sub s_20
    have geS4_20 := S4.le e_20
    have S4 := S4.trans s_20
    refine RL.store sh28 rfl rfl rfl hb_20 (by exact Nat.le_of_ble_eq_true rfl) (by rfl) rfl (fun w17 z17 hb_20 a17 => ?_)
    have S := S.upd a17 ge_20
    have S0 := S0.upd a17 geS0_20
    have S1 := S1.upd a17 geS1_20
    have hb_10 := hb_10.upd a17 n_10__20
    have S2 := S2.upd a17 geS2_20
    have hb_12 := hb_12.upd a17 n_12__20
    have S3 := S3.upd a17 geS3_20
    have hb_16 := hb_16.upd a17 n_16__20
    have S4 := S4.upd a17 geS4_20
    have hb_20 : Has w17 b_20 ([.slice na4 A4.nodes.length nc4, .slice fa4 A4.free.length fc4]) _ := hb_20.now (by kernel_rfl)
    refine RL.ev (.assign rfl) rfl rfl ?_
    refine RL.ev (.assign rfl) rfl rfl ?_
    refine RL.nil (RC.back ?_)
    refine RC.seq ?_
    refine RC.region rfl ?_
    refine RL.ev (.loadR ([.slice na4 A4.nodes.length nc4, .slice fa4 A4.free.length fc4]) sh28 rfl hb_20.row rfl) rfl rfl ?_
    refine RL.ev (.move rfl) rfl rfl ?_
    refine RL.ev (.move rfl) rfl rfl ?_
    refine RL.call rfl ok34 (c_tjoin A4 na4 fa4 nc4 fc4 hn4 hf4 r6 r5 hU6 hU5 _ w17 (hG4.sub S4)) rfl rfl ?_
    rintro _ w18 ⟨s19, na5, fa5, nc5, fc5, A5, r7, e5, M5, rfl, hU7, hn5, hf5, hA5, _, hp5⟩
    have S := S.trans s19
    have S0 := S0.trans s19
    have S1 := S1.trans s19
    have hb_10 := hb_10.sub s19
    have S2 := S2.trans s19
    have hb_12 := hb_12.sub s19
    have S3 := S3.trans s19
    have hb_16 := hb_16.sub s19
    have S4 := S4.trans s19
    have hb_20 := hb_20.sub s19
    obtain ⟨rfl, hE5, hok5, hF5, hT7⟩ := (join_good hp5 hM6 hM5 hT6 hT5' (fun h => h.2.2.elim (fun h => h (lt2_ge2 hlu R)) (fun h => by omega))).resolve_left (fun h => by omega)
    rw [List.append_assoc, ltge_app hs3 up, ltge_app hRs lo] at hT7
    have hT8 := (hE5.isT (hE4.isT (hE3.isT (hE2.isT hT1))))
    obtain ⟨W5, S5, hA5⟩ : ∃ W5, Sub W5 w18 ∧ ArR W5 na5 fa5 A5 := ⟨_, Sub.refl _, hA5.now⟩
    refine RL.ev (.move rfl) rfl rfl ?_
    refine RL.ev (.extract rfl rfl) rfl rfl ?_
    refine RL.ev (.extract rfl rfl) rfl rfl ?_
    refine RL.ev (.extract rfl rfl) rfl rfl ?_
    refine RL.alloc ze28 rfl rfl (fun b_23 w_23 e_23 z_23 hb_23 s_23 => ?_)
    have ge_23 := S.le e_23
    have n_10__23 := hb_10.ne e_23
    have n_12__23 := hb_12.ne e_23
    have n_16__23 := hb_16.ne e_23
    have n_20__23 := hb_20.ne e_23
    have S := S.trans s_23
    have geS0_23 := S0.le e_23
    have S0 := S0.trans s_23
    have geS1_23 := S1.le e_23
    have S1 := S1.trans s_23
    have hb_10 := hb_10.sub s_23
    have geS2_23 := S2.le e_23
    have S2 := S2.trans s_23
    have hb_12 := hb_12.sub s_23
    have geS3_23 := S3.le e_23
    have S3 := S3.trans s_23
    have hb_16 := hb_16.sub s_23
    have geS4_23 := S4.le e_23
    have S4 := S4.trans s_23
    have hb_20 := hb_20.sub s_23
    have geS5_23 := S5.le e_23
    have S5 := S5.trans s_23
    refine RL.store sh28 rfl rfl rfl hb_23 (by exact Nat.le_of_ble_eq_true rfl) (by rfl) rfl (fun w20 z20 hb_23 a20 => ?_)
    have S := S.upd a20 ge_23
    have S0 := S0.upd a20 geS0_23
    have S1 := S1.upd a20 geS1_23
    have hb_10 := hb_10.upd a20 n_10__23
    have S2 := S2.upd a20 geS2_23
    have hb_12 := hb_12.upd a20 n_12__23
    have S3 := S3.upd a20 geS3_23
    have hb_16 := hb_16.upd a20 n_16__23
    have S4 := S4.upd a20 geS4_23
    have hb_20 := hb_20.upd a20 n_20__23
    have S5 := S5.upd a20 geS5_23
    have hb_23 : Has w20 b_23 ([.slice na5 A5.nodes.length nc5, .slice fa5 A5.free.length fc5]) _ := hb_23.now (by kernel_rfl)
    refine RL.ev (.assign rfl) rfl rfl ?_
    refine RL.ev (.assign rfl) rfl rfl ?_
    refine RL.nil (RC.back ?_)
    refine RC.seq ?_
    refine RC.region rfl ?_
    refine RL.ev (.assign rfl) rfl rfl ?_
    refine RL.nil (RC.back ?_)
    refine RC.seq ?_
    refine RC.seq ?_
    refine RC.region rfl ?_
    refine RL.ev (.move rfl) rfl rfl ?_
    refine RL.ev (.as (v' := .int .i64 (R.length : Int)) (.len sl23 rfl) (by rw [hm])) rfl rfl ?_
    refine RL.ev (.move rfl) rfl rfl ?_
    obtain ⟨E, hE⟩ : ∃ E, E = w20.heap.size := ⟨_, rfl⟩
    have lt16 := hb_16.lt
    have lt23 := hb_23.lt
    have szS := S.size
    have szS0 := S0.size
    have szS3 := S3.size
    have szS5 := S5.size
    rw [← hE] at lt16 lt23 szS szS0 szS3 szS5
    obtain ⟨WE, hWE, SE⟩ : ∃ W, W.heap.size = E ∧ Sub W w20 := ⟨_, hE.symm, Sub.refl _⟩
    refine RL.nil (RC.back ?_)
    refine RC.block ?_
    refine RC.loop (α := Nat × Option Addr × Nat × Nat) (fun x => [(1, .int .i64 lo), (2, .int .i64 up), (7, .slice ra rm rc), (11, .int .u64 r1), (15, .int .i64 0), (16, .pointer (some ⟨b_16, 0, none⟩)), (17, .int .u64 r4), (19, .int .i64 0), (22, .int .i64 0), (23, .pointer (some ⟨b_23, 0, none⟩)), (24, .int .u64 r7), (25, .int .i64 0), (26, .slice x.2.1 x.2.2.1 x.2.2.2), (96, .slice ra rm rc), (97, .int .i64 (R.length : Int)), (98, .int .i64 (x.1 : Int))]) (fun x w21 => x.1 ≤ R.length ∧ Has w21 b_16 [.slice na3 A3.nodes.length nc3, .slice fa3 A3.free.length fc3] 28 ∧ Has w21 b_23 [.slice na5 A5.nodes.length nc5, .slice fa5 A5.free.length fc5] 28 ∧ Ows E w21 42 2 (.slice x.2.1 x.2.2.1 x.2.2.2) (((R.take x.1).filter fun y => decide (lo ≤ y.k) && decide (y.k < up)).map It.cells) ∧ Sub W0 w21 ∧ Sub W3 w21 ∧ Sub W5 w21 ∧ Sub WE w21 ∧ Sub w w21) (fun x => R.length - x.1) (0, none, 0, 0) (keep_of (by repeat (first | exact trivial | refine And.intro rfl ?_))) (⟨Nat.zero_le _, hb_16, hb_23, Ows.nil _ _ _ _, S0, S3, S5, SE, S⟩) (fun x w21 hJ => ?_)
    obtain ⟨i, ao, mo, co⟩ := x; obtain ⟨hi, hb_16, hb_23, o, S0, S3, S5, SE, S⟩ := hJ; simp only [] at hi o; obtain rfl := o.sl.2; have hfl : ((R.take i).filter fun y => decide (lo ≤ y.k) && decide (y.k < up)).length ≤ i := Nat.le_trans (List.length_filter_le _ _) (by rw [List.length_take]; omega); have dO16 : ∀ k, ob (.slice ao (((R.take i).filter fun y => decide (lo ≤ y.k) && decide (y.k < up)).map It.cells).length co) = some k → k ≠ b_16 := (fun k hk e => by have := (o.ge k hk).1; omega); have dO23 : ∀ k, ob (.slice ao (((R.take i).filter fun y => decide (lo ≤ y.k) && decide (y.k < up)).map It.cells).length co) = some k → k ≠ b_23 := (fun k hk e => by have := (o.ge k hk).1; omega); have szB := SE.size; rw [hWE] at szB
    refine RC.seq ?_
    refine RC.region rfl ?_
    refine RL.ev (.bin rfl rfl rfl) rfl rfl ?_
    refine RL.nil (RC.back ?_)
    refine RC.seq ?_
    refine RC.cond_dec rfl (fun h22 => ?_) (fun h22 => ?_)
    ·
      obtain ⟨x, hx⟩ := getSome (l := R) (i := i) (by omega)
      refine RC.skip (RC.back ?_)
      refine RC.seq ?_
      refine RC.block ?_
      refine RC.seq ?_
      refine RC.region rfl ?_
      refine RL.ev (.indexS sl23 rfl rfl (by rw [hm]; omega) (hr.is (i := 0) (by simp only [List.length_map]; omega))) rfl rfl ?_
      refine RL.ev (.loadR (x.cells) sh42 rfl ((hr.sub S0).rowAt (enc := It.cells) (i := i) hx) rfl) rfl rfl ?_
      refine RL.alloc ze42 rfl rfl (fun b_28 w_28 e_28 z_28 hb_28 s_28 => ?_)
      have ge_28 := S.le e_28
      have n_16__28 := hb_16.ne e_28
      have n_23__28 := hb_23.ne e_28
      have d_o_b_28 := o.neNew e_28
      have S := S.trans s_28
      have geS0_28 := S0.le e_28
      have S0 := S0.trans s_28
      have geS3_28 := S3.le e_28
      have S3 := S3.trans s_28
      have geS5_28 := S5.le e_28
      have S5 := S5.trans s_28
      have geSE_28 := SE.le e_28
      have SE := SE.trans s_28
      have hb_16 := hb_16.sub s_28
      have hb_23 := hb_23.sub s_28
      have o := o.sub s_28
      refine RL.store sh42 rfl rfl rfl hb_28 (by exact Nat.le_of_ble_eq_true rfl) (by rfl) rfl (fun w23 z23 hb_28 a23 => ?_)
      have S := S.upd a23 ge_28
      have S0 := S0.upd a23 geS0_28
      have S3 := S3.upd a23 geS3_28
      have S5 := S5.upd a23 geS5_28
      have SE := SE.upd a23 geSE_28
      have hb_16 := hb_16.upd a23 n_16__28
      have hb_23 := hb_23.upd a23 n_23__28
      have o := o.updD a23 d_o_b_28
      have hb_28 : Has w23 b_28 (x.cells) _ := hb_28.now (by kernel_rfl)
      refine RL.nil (RC.back ?_)
      refine RC.seq ?_
      refine RC.region rfl ?_
      refine RL.ev (.field0 fo42_0 rfl) rfl rfl ?_
      refine RL.ev (.load1 sh2 rfl (hb_28.cell rfl)) rfl rfl ?_
      refine RL.ev (.move rfl) rfl rfl ?_
      refine RL.ev (.bin rfl rfl rfl) rfl rfl ?_
      refine RL.ev (.move rfl) rfl rfl ?_
      refine RL.split 106 rfl (fun h24 => ?_) (fun h24 => ?_)
      ·
        have h106 := h24
        refine RL.ev (.field0 fo42_0 rfl) rfl rfl ?_
        refine RL.ev (.load1 sh2 rfl (hb_28.cell rfl)) rfl rfl ?_
        refine RL.ev (.move rfl) rfl rfl ?_
        refine RL.ev (.bin rfl rfl rfl) rfl rfl ?_
        refine RL.ev (.pick_t rfl rfl) rfl rfl ?_
        refine RL.nil (RC.back ?_)
        refine RC.cond_dec rfl (fun h25 => ?_) (fun h25 => ?_)
        ·
          have hnext : (R.take (i + 1)).filter (fun y => decide (lo ≤ y.k) && decide (y.k < up)) = (R.take i).filter (fun y => decide (lo ≤ y.k) && decide (y.k < up)) ++ [x] := (by rw [filter_step hx, if_pos (by simp; omega)])
          refine RC.region rfl ?_
          refine RL.ev (.move rfl) rfl rfl ?_
          refine RL.ev (.loadR (x.cells) sh42 rfl hb_28.row rfl) rfl rfl ?_
          refine RL.buildSlice1 sl23 _ ze42 rfl rfl rfl rfl rfl rfl rfl (fun b_114 w_114 e_114 z_114 hb_114 s_114 => ?_)
          have ge_114 := S.le e_114
          have n_16__114 := hb_16.ne e_114
          have n_23__114 := hb_23.ne e_114
          have n_28__114 := hb_28.ne e_114
          have d_o_b_114 := o.neNew e_114
          have S := S.trans s_114
          have geS0_114 := S0.le e_114
          have S0 := S0.trans s_114
          have geS3_114 := S3.le e_114
          have S3 := S3.trans s_114
          have geS5_114 := S5.le e_114
          have S5 := S5.trans s_114
          have geSE_114 := SE.le e_114
          have SE := SE.trans s_114
          have hb_16 := hb_16.sub s_114
          have hb_23 := hb_23.sub s_114
          have o := o.sub s_114
          have hb_28 := hb_28.sub s_114
          have sz_115 := S.size
          have szS0_115 := S0.size
          have szS3_115 := S3.size
          have szS5_115 := S5.size
          have szSE_115 := SE.size
          have ltb_16_115 := hb_16.lt
          have ltb_23_115 := hb_23.lt
          have ltb_28_115 := hb_28.lt
          have ltb_114_115 := hb_114.lt
          refine RL.append2 (base := E) (rows := ((R.take i).filter fun y => decide (lo ≤ y.k) && decide (y.k < up)).map It.cells) (news := [_]) sl23 ze42 rfl rfl rfl rfl (.inl o) (Has.slOne hb_114) rfl (by intro r hr; rw [List.mem_singleton] at hr; subst hr; rfl) rfl (by (try simp only [List.length_map, List.length_nil, List.length_append, List.length_cons]); omega) (by (try simp only [List.length_map, List.length_nil, List.length_append, List.length_cons]); omega) (by omega) rfl rfl (fun v_115 w_115 hc_115 ho_115 ag_115 ob_115 => ?_)
          have o115 := ho_115 (.inl (by simp))
          rw [show _ ++ [_] = ((((R.take i).filter fun y => decide (lo ≤ y.k) && decide (y.k < up)) ++ [x]).map It.cells) from by rw [List.map_append]; rfl] at o115
          have d_o115_b_16 := obNe ob_115 dO16 hb_16.lt
          have d_o115_b_23 := obNe ob_115 dO23 hb_23.lt
          have d_o115_b_28 := obNe ob_115 d_o_b_28 hb_28.lt
          have S := S.agrN ag_115 (fun k e => Nat.le_trans (by omega) e.2)
          have S0 := S0.agrN ag_115 (fun k e => Nat.le_trans (by omega) e.2)
          have S3 := S3.agrN ag_115 (fun k e => Nat.le_trans (by omega) e.2)
          have S5 := S5.agrN ag_115 (fun k e => Nat.le_trans (by omega) e.2)
          have SE := SE.agrN ag_115 (fun k e => Nat.le_trans (by omega) e.2)
          have hb_16 := hb_16.step ag_115 (fun e => dO16 _ e.1 rfl)
          have hb_23 := hb_23.step ag_115 (fun e => dO23 _ e.1 rfl)
          have hb_28 := hb_28.step ag_115 (fun e => d_o_b_28 _ e.1 rfl)
          obtain ⟨a_115, c_115, rfl, k_115⟩ := o115.form
          refine RL.ev (.assign rfl) rfl rfl ?_
          refine RL.nil (RC.back ?_)
          refine RC.region rfl ?_
          refine RL.ev (.as (.bin rfl rfl rfl) (wi64 (y := ((i + 1 : Nat) : Int)) (by omega) (by omega))) rfl rfl ?_
          refine RL.ev (.move rfl) rfl rfl ?_
          exact RL.nil (fun a ka => ⟨(i + 1, a_115, _, c_115), ⟨by omega, hb_16, hb_23, by show Ows _ _ _ _ _ (((R.take (i + 1)).filter fun y => decide (lo ≤ y.k) && decide (y.k < up)).map It.cells); rw [hnext]; exact o115, S0, S3, S5, SE, S⟩, by omega, ka.keep (keep_of (by repeat (first | exact trivial | refine And.intro rfl ?_)))⟩)
        ·
          have hnext : (R.take (i + 1)).filter (fun y => decide (lo ≤ y.k) && decide (y.k < up)) = (R.take i).filter (fun y => decide (lo ≤ y.k) && decide (y.k < up)) := (by rw [filter_step hx, if_neg (by simp; omega), List.append_nil])
          refine RC.skip (RC.back ?_)
          refine RC.region rfl ?_
          refine RL.ev (.as (.bin rfl rfl rfl) (wi64 (y := ((i + 1 : Nat) : Int)) (by omega) (by omega))) rfl rfl ?_
          refine RL.ev (.move rfl) rfl rfl ?_
          exact RL.nil (fun a ka => ⟨(i + 1, ao, _, co), ⟨by omega, hb_16, hb_23, by show Ows _ _ _ _ _ (((R.take (i + 1)).filter fun y => decide (lo ≤ y.k) && decide (y.k < up)).map It.cells); rw [hnext]; exact o, S0, S3, S5, SE, S⟩, by omega, ka.keep (keep_of (by repeat (first | exact trivial | refine And.intro rfl ?_)))⟩)
      ·
        have h106 := h24
        have hnext : (R.take (i + 1)).filter (fun y => decide (lo ≤ y.k) && decide (y.k < up)) = (R.take i).filter (fun y => decide (lo ≤ y.k) && decide (y.k < up)) := (by rw [filter_step hx, if_neg (by simp; omega), List.append_nil])
        refine RL.off rfl rfl ?_
        refine RL.off rfl rfl ?_
        refine RL.off rfl rfl ?_
        refine RL.off rfl rfl ?_
        refine RL.ev (.pick_f rfl rfl) rfl rfl ?_
        refine RL.nil (RC.back ?_)
        refine RC.cond_f rfl ?_
        refine RC.skip (RC.back ?_)
        refine RC.region rfl ?_
        refine RL.ev (.as (.bin rfl rfl rfl) (wi64 (y := ((i + 1 : Nat) : Int)) (by omega) (by omega))) rfl rfl ?_
        refine RL.ev (.move rfl) rfl rfl ?_
        exact RL.nil (fun a ka => ⟨(i + 1, ao, _, co), ⟨by omega, hb_16, hb_23, by show Ows _ _ _ _ _ (((R.take (i + 1)).filter fun y => decide (lo ≤ y.k) && decide (y.k < up)).map It.cells); rw [hnext]; exact o, S0, S3, S5, SE, S⟩, by omega, ka.keep (keep_of (by repeat (first | exact trivial | refine And.intro rfl ?_)))⟩)
    ·
      obtain rfl : i = R.length := (by omega)
      rw [List.take_length, ← ltgeL] at o
      have hoc : (ltL up (geL lo R)).length ≤ co := (by obtain ⟨_, c', e, h⟩ := o.form; cases e; rw [List.length_map] at h; exact h)
      refine RC.exit rfl (RC.back ?_)
      refine RC.seq ?_
      refine RC.region rfl ?_
      refine RL.call rfl ok28 (c_alive6 w21) rfl rfl ?_
      rintro _ w26 ⟨rfl, s27⟩
      have S := S.trans s27
      have S0 := S0.trans s27
      have S3 := S3.trans s27
      have S5 := S5.trans s27
      have SE := SE.trans s27
      have hb_16 := hb_16.sub s27
      have hb_23 := hb_23.sub s27
      have o := o.sub s27
      refine RL.ev (.move rfl) rfl rfl ?_
      refine RL.ev (.move rfl) rfl rfl ?_
      refine RL.ev (.as (v' := .bool true) (.bin rfl rfl rfl) (congrArg Value.bool (decide_eq_true (rfl)))) rfl rfl ?_
      refine RL.ev (.pick_t rfl rfl) rfl rfl ?_
      refine RL.ev (.move rfl) rfl rfl ?_
      refine RL.ev (.move rfl) rfl rfl ?_
      refine RL.ev (.as (v' := .bool true) (.bin rfl rfl rfl) (congrArg Value.bool (decide_eq_true (rfl)))) rfl rfl ?_
      refine RL.ev (.pick_t rfl rfl) rfl rfl ?_
      refine RL.ev (.move rfl) rfl rfl ?_
      refine RL.ev (.move rfl) rfl rfl ?_
      refine RL.ev (.as (v' := .bool true) (.bin rfl rfl rfl) (congrArg Value.bool (decide_eq_true (rfl)))) rfl rfl ?_
      refine RL.ev (.pick_t rfl rfl) rfl rfl ?_
      refine RL.ev (.move rfl) rfl rfl ?_
      refine RL.ev (.move rfl) rfl rfl ?_
      refine RL.ev (.as (v' := .bool true) (.bin rfl rfl rfl) (congrArg Value.bool (decide_eq_true (rfl)))) rfl rfl ?_
      refine RL.ev (.pick_t rfl rfl) rfl rfl ?_
      refine RL.ev (.move rfl) rfl rfl ?_
      refine RL.ev (.loadR ([.slice na3 A3.nodes.length nc3, .slice fa3 A3.free.length fc3]) sh28 rfl hb_16.row rfl) rfl rfl ?_
      refine RL.ev (.move rfl) rfl rfl ?_
      refine RL.ev (.move rfl) rfl rfl ?_
      refine RL.call rfl ok29 (c_isYes A3 na3 fa3 nc3 fc3 hok3 r4 (ltL up (geL lo R)) ao co _ (by rw [List.length_map, List.take_length, ltgeL]) hoc hU4 (by omega) hT4 w26 (hA3.sub S3) o.sl.1) rfl rfl ?_
      rintro _ w28 ⟨rfl, s29⟩
      have S := S.trans s29
      have S0 := S0.trans s29
      have S3 := S3.trans s29
      have S5 := S5.trans s29
      have SE := SE.trans s29
      have hb_16 := hb_16.sub s29
      have hb_23 := hb_23.sub s29
      have o := o.sub s29
      refine RL.ev (.pick_t rfl rfl) rfl rfl ?_
      refine RL.ev (.move rfl) rfl rfl ?_
      refine RL.ev (.loadR ([.slice na5 A5.nodes.length nc5, .slice fa5 A5.free.length fc5]) sh28 rfl hb_23.row rfl) rfl rfl ?_
      refine RL.ev (.move rfl) rfl rfl ?_
      refine RL.ev (.move rfl) rfl rfl ?_
      refine RL.call rfl ok29 (c_isYes A5 na5 fa5 nc5 fc5 hok5 r7 R ra rc rm hm hc hU7 (by omega) hT7 w28 (hA5.sub S5) (hr.sub S0)) rfl rfl ?_
      rintro _ w30 ⟨rfl, s31⟩
      have S := S.trans s31
      have S0 := S0.trans s31
      have S3 := S3.trans s31
      have S5 := S5.trans s31
      have SE := SE.trans s31
      have hb_16 := hb_16.sub s31
      have hb_23 := hb_23.sub s31
      have o := o.sub s31
      refine RL.ev (.pick_t rfl rfl) rfl rfl ?_
      refine RL.ev (.move rfl) rfl rfl ?_
      refine RL.ev (.loadR ([.slice na5 A5.nodes.length nc5, .slice fa5 A5.free.length fc5]) sh28 rfl hb_23.row rfl) rfl rfl ?_
      refine RL.ev (.move rfl) rfl rfl ?_
      refine RL.ev (.move rfl) rfl rfl ?_
      refine RL.call rfl ok29 (c_isYes A5 na5 fa5 nc5 fc5 hok5 r1 R ra rc rm hm hc hU1 (by omega) hT8 w30 (hA5.sub S5) (hr.sub S0)) rfl rfl ?_
      rintro _ w32 ⟨rfl, s33⟩
      have S := S.trans s33
      have S0 := S0.trans s33
      have S3 := S3.trans s33
      have S5 := S5.trans s33
      have SE := SE.trans s33
      have hb_16 := hb_16.sub s33
      have hb_23 := hb_23.sub s33
      have o := o.sub s33
      refine RL.ev (.pick_t rfl rfl) rfl rfl ?_
      refine RL.ev (.assign rfl) rfl rfl ?_
      refine RL.nil (RC.back ?_)
      refine RC.done (rs := [.tmp 6]) (vs := [_]) rfl rfl ⟨rfl, trivial⟩ ?_
      -- end 1
      exact ⟨rfl, S⟩
end Go.Proofs.Ytekdjjppdijkmaa
