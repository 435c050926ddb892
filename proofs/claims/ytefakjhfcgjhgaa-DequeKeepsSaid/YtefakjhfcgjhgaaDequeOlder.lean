/-
  The statements DequeOlder and DequeJoins, DequeBack: what they share, and DequeOlder.
-/
import Derived.Test.YtefakjhfcgjhgaaDequeLaws
set_option linter.unusedVariables false
set_option linter.unusedSimpArgs false
namespace Go.Proofs.Ytefakjhfcgjhgaa
open Go Go.XL

theorem min_len {l : List Int} {k : Nat} : (if (k : Int) < (l.length : Int) then (k : Int) else l.length).toNat = (l.take k).length := few_len k l
theorem one_ref (l : List Int) : IntKind.u64.wrap (if (1 : Int) < (l.length : Int) then 1 else (l.length : Int)) = if l.length = 0 then 0 else 1 := by
  by_cases h : l.length = 0
  · rw [if_pos h, if_neg (by omega)]; rw [h]; rfl
  · rw [if_neg h]
    split
    · rfl
    · rw [show (l.length : Int) = 1 by omega]; rfl
theorem one_u (l : List Int) : U64 (if l.length = 0 then 0 else 1 : Int) := by unfold U64; split <;> decide
set_option maxHeartbeats 4000000 in
theorem law_DequeOlder (w : World) (l0 : List Int) (pa : Option Addr) (pc : Nat) (hlc : l0.length ≤ pc) (hcm : pc ≤ maxLen) (hs0 : Sl w pa 1 (l0.map fun x => [i6 x])) (hli0 : ∀ x ∈ l0, I64 x) (v : Int) (wv : (Lit.int .i64 v).wf = true) (z : Int) (wz : (Lit.int .i64 z).wf = true) :
    FC Try.prog 3 [.slice pa l0.length pc, .int .i64 v, .int .i64 z] w (Val (.bool true) w) := by
  have hv : I64 v := wfI wv
  have hz : I64 z := wfI wz
  have hll : l0.length ≤ 9223372036854775807 := Nat.le_trans hlc (Nat.le_trans hcm (by decide))
  obtain ⟨l, hl⟩ : ∃ l, l = l0.take 20 := ⟨_, rfl⟩
  have hl20 : l.length ≤ 20 := by rw [hl, List.length_take]; omega
  have hlp : l.length ≤ pc := by rw [hl, List.length_take]; omega
  have hs : Sl w pa 1 (l.map fun x => [i6 x]) := by rw [hl, List.map_take]; exact hs0.take 20
  have hli : ∀ x ∈ l, I64 x := fun x hx => hli0 x (List.mem_of_mem_take (hl ▸ hx))
  obtain ⟨r1, hr1⟩ : ∃ r : Int, r = if l.length = 0 then 0 else 1 := ⟨_, rfl⟩
  have hu1 : U64 r1 := hr1 ▸ one_u l
  have hB := build2_ok (size := 300) (l := l) (m := []) (by simp; omega) (by decide) (by decide)
  obtain ⟨P1, _, hR1, _⟩ := hB.rows
  rw [← hr1] at hR1
  have hBf := hB.free
  have hBo := hB.ok
  simp only [List.length_nil] at hBf
  obtain ⟨A1, hAe⟩ : ∃ A, build2A 300 l [] = A := ⟨_, rfl⟩
  rw [hAe] at hR1 hBf hBo
  refine FC.intro Try.func3 rfl Try.ntmps3 rfl ?_
  have S := Sub.refl w
  refine RC.seq ?_
  refine RC.region rfl ?_
  refine RL.ev (.assign rfl) rfl rfl ?_
  refine RL.nil (RC.back ?_)
  refine RC.seq ?_
  refine RC.region rfl ?_
  refine RL.ev (.move rfl) rfl rfl ?_
  refine RL.ev (.move rfl) rfl rfl ?_
  refine RL.ev (.len sl22 rfl) rfl rfl ?_
  refine RL.ev (.min2 rfl rfl) rfl rfl ?_
  refine RL.ev (.as (v' := .slice pa l.length pc) (.sliceHi sl22 rfl rfl (by split <;> omega)) (by rw [hl, ← min_len]; rfl)) rfl rfl ?_
  refine RL.ev (.assign rfl) rfl rfl ?_
  refine RL.nil (RC.back ?_)
  refine RC.seq ?_
  refine RC.region rfl ?_
  refine RL.ev (.as (v' := .slice pa l.length pc) (.move rfl) (by rfl)) rfl rfl ?_
  refine RL.call rfl ok10 ((hAe ▸ c_build11 300 l [] pa none pc 0 l.length 0 rfl rfl hlp (Nat.zero_le _) hli (by simp) (by simp; omega) (by decide) (by decide) w (hs.sub S) (Sl.nil _ _ _))) rfl rfl ?_
  rintro _ w1 ⟨na1, fa1, nc1, fc1, rfl, hn1, hf1, hi1, s2⟩
  have hA1 := (hi1 (fun _ => False) (fun _ h => h.elim)).now
  have S := S.trans s2
  obtain ⟨W1, S1, hA1⟩ : ∃ W, Sub W w1 ∧ ArR W na1 fa1 A1 := ⟨_, Sub.refl _, hA1⟩
  have hG1 := Ft.of_sub fun u s => hA1.sub s
  refine RL.ev (.move rfl) rfl rfl ?_
  refine RL.ev (.extract rfl rfl) rfl rfl ?_
  refine RL.ev (.extract rfl rfl) rfl rfl ?_
  refine RL.alloc ze26 rfl rfl (fun b_7 w_7 e_7 z_7 hb_7 s_7 => ?_)
  have ge_7 := S.le e_7
  have S := S.trans s_7
  have geS1_7 := S1.le e_7
  have S1 := S1.trans s_7
  refine RL.store sh26 rfl rfl rfl hb_7 (by exact Nat.le_of_ble_eq_true rfl) (by rfl) rfl (fun w3 z3 hb_7 a3 => ?_)
  have S := S.upd a3 ge_7
  have S1 := S1.upd a3 geS1_7
  have hb_7 : Has w3 b_7 ([.slice na1 A1.nodes.length nc1, .slice fa1 A1.free.length fc1]) _ := hb_7.now (by kernel_rfl)
  refine RL.ev (.assign rfl) rfl rfl ?_
  refine RL.nil (RC.back ?_)
  refine RC.seq ?_
  refine RC.region rfl ?_
  refine RL.ev (.move rfl) rfl rfl ?_
  refine RL.ev (.len sl22 rfl) rfl rfl ?_
  refine RL.ev (.min2 rfl rfl) rfl rfl ?_
  refine RL.ev (.as (v' := .int .u64 r1) (.conv i3 i28 rfl) (by rw [hr1, ← one_ref])) rfl rfl ?_
  refine RL.ev (.assign rfl) rfl rfl ?_
  refine RL.nil (RC.back ?_)
  refine RC.seq ?_
  refine RC.region rfl ?_
  refine RL.ev (.loadR ([.slice na1 A1.nodes.length nc1, .slice fa1 A1.free.length fc1]) sh26 rfl hb_7.row rfl) rfl rfl ?_
  refine RL.ev (.move rfl) rfl rfl ?_
  refine RL.ev (.move rfl) rfl rfl ?_
  refine RL.call rfl ok11 (c_dpush A1 na1 fa1 nc1 fc1 hn1 hf1 r1 true v hu1 hv _ w3 (hG1.sub S1)) rfl rfl ?_
  rintro _ w4 ⟨s5, na2, fa2, nc2, fc2, A2, r2, e2, M2, rfl, hU2, hn2, hf2, hA2, _, hp2⟩
  have S := S.trans s5
  have S1 := S1.trans s5
  have hb_7 := hb_7.sub s5
  obtain ⟨rfl, hE2, hok2, hF2, P2, hR2⟩ := hp2.good hBo hR1 (by omega) (by omega)
  have hl2 := pushL_len l true v
  obtain ⟨W2, S2, hA2⟩ : ∃ W, Sub W w4 ∧ ArR W na2 fa2 A2 := ⟨_, Sub.refl _, hA2.now⟩
  have hG2 := Ft.of_sub fun u s => hA2.sub s
  refine RL.ev (.move rfl) rfl rfl ?_
  refine RL.ev (.extract rfl rfl) rfl rfl ?_
  refine RL.ev (.extract rfl rfl) rfl rfl ?_
  refine RL.ev (.extract rfl rfl) rfl rfl ?_
  refine RL.alloc ze26 rfl rfl (fun b_10 w_10 e_10 z_10 hb_10 s_10 => ?_)
  have ge_10 := S.le e_10
  have n_7__10 := hb_7.ne e_10
  have S := S.trans s_10
  have geS1_10 := S1.le e_10
  have S1 := S1.trans s_10
  have hb_7 := hb_7.sub s_10
  have geS2_10 := S2.le e_10
  have S2 := S2.trans s_10
  refine RL.store sh26 rfl rfl rfl hb_10 (by exact Nat.le_of_ble_eq_true rfl) (by rfl) rfl (fun w6 z6 hb_10 a6 => ?_)
  have S := S.upd a6 ge_10
  have S1 := S1.upd a6 geS1_10
  have hb_7 := hb_7.upd a6 n_7__10
  have S2 := S2.upd a6 geS2_10
  have hb_10 : Has w6 b_10 ([.slice na2 A2.nodes.length nc2, .slice fa2 A2.free.length fc2]) _ := hb_10.now (by kernel_rfl)
  refine RL.ev (.assign rfl) rfl rfl ?_
  refine RL.ev (.assign rfl) rfl rfl ?_
  refine RL.nil (RC.back ?_)
  refine RC.seq ?_
  refine RC.region rfl ?_
  refine RL.ev (.loadR ([.slice na2 A2.nodes.length nc2, .slice fa2 A2.free.length fc2]) sh26 rfl hb_10.row rfl) rfl rfl ?_
  refine RL.ev (.move rfl) rfl rfl ?_
  refine RL.ev (.move rfl) rfl rfl ?_
  refine RL.call rfl ok11 (c_dpush A2 na2 fa2 nc2 fc2 hn2 hf2 r1 false z hu1 hz _ w6 (hG2.sub S2)) rfl rfl ?_
  rintro _ w7 ⟨s8, na3, fa3, nc3, fc3, A3, r3, e3, M3, rfl, hU3, hn3, hf3, hA3, _, hp3⟩
  have S := S.trans s8
  have S1 := S1.trans s8
  have hb_7 := hb_7.sub s8
  have S2 := S2.trans s8
  have hb_10 := hb_10.sub s8
  obtain ⟨rfl, hE3, hok3, hF3, P3, hR3⟩ := hp3.good hok2 (hR1.ext hE2) (by omega) (by omega)
  have hl3 := pushL_len l false z
  obtain ⟨W3, S3, hA3⟩ : ∃ W, Sub W w7 ∧ ArR W na3 fa3 A3 := ⟨_, Sub.refl _, hA3.now⟩
  refine RL.ev (.move rfl) rfl rfl ?_
  refine RL.ev (.extract rfl rfl) rfl rfl ?_
  refine RL.ev (.extract rfl rfl) rfl rfl ?_
  refine RL.ev (.extract rfl rfl) rfl rfl ?_
  refine RL.alloc ze26 rfl rfl (fun b_13 w_13 e_13 z_13 hb_13 s_13 => ?_)
  have ge_13 := S.le e_13
  have n_7__13 := hb_7.ne e_13
  have n_10__13 := hb_10.ne e_13
  have S := S.trans s_13
  have geS1_13 := S1.le e_13
  have S1 := S1.trans s_13
  have hb_7 := hb_7.sub s_13
  have geS2_13 := S2.le e_13
  have S2 := S2.trans s_13
  have hb_10 := hb_10.sub s_13
  have geS3_13 := S3.le e_13
  have S3 := S3.trans s_13
  refine RL.store sh26 rfl rfl rfl hb_13 (by exact Nat.le_of_ble_eq_true rfl) (by rfl) rfl (fun w9 z9 hb_13 a9 => ?_)
  have S := S.upd a9 ge_13
  have S1 := S1.upd a9 geS1_13
  have hb_7 := hb_7.upd a9 n_7__13
  have S2 := S2.upd a9 geS2_13
  have hb_10 := hb_10.upd a9 n_10__13
  have S3 := S3.upd a9 geS3_13
  have hb_13 : Has w9 b_13 ([.slice na3 A3.nodes.length nc3, .slice fa3 A3.free.length fc3]) _ := hb_13.now (by kernel_rfl)
  refine RL.ev (.assign rfl) rfl rfl ?_
  refine RL.ev (.assign rfl) rfl rfl ?_
  refine RL.nil (RC.back ?_)
  refine RC.seq ?_
  refine RC.region rfl ?_
  refine RL.ev (.loadR ([.slice na3 A3.nodes.length nc3, .slice fa3 A3.free.length fc3]) sh26 rfl hb_13.row rfl) rfl rfl ?_
  refine RL.ev (.move rfl) rfl rfl ?_
  refine RL.call rfl ok12 (c_dRow A3 na3 fa3 nc3 fc3 hn3 hf3 r2 hU2 w9 (hA3.sub S3)) rfl rfl ?_
  rintro _ w10 ⟨s11, a4, c4, V4, e4, rfl, hc4, hs4, _, hy4⟩
  have S := S.trans s11
  have S1 := S1.trans s11
  have hb_7 := hb_7.sub s11
  have S2 := S2.trans s11
  have hb_10 := hb_10.sub s11
  have S3 := S3.trans s11
  have hb_13 := hb_13.sub s11
  obtain ⟨rfl, rfl⟩ := hy4 _ _ (row_of hok3 (hR2.ext hE3) (by omega)) (hR2.ext hE3)
  obtain ⟨W4, S4, hs4⟩ : ∃ W4, Sub W4 w10 ∧ Sl W4 a4 1 ((pushL l true v).map fun x => [i6 x]) := ⟨_, Sub.refl _, hs4⟩
  refine RL.ev (.move rfl) rfl rfl ?_
  refine RL.ev (.extract rfl rfl) rfl rfl ?_
  refine RL.ev (.extract rfl rfl) rfl rfl ?_
  refine RL.ev (.assign rfl) rfl rfl ?_
  refine RL.ev (.assign rfl) rfl rfl ?_
  refine RL.nil (RC.back ?_)
  refine RC.seq ?_
  refine RC.region rfl ?_
  refine RL.ev (.loadR ([.slice na3 A3.nodes.length nc3, .slice fa3 A3.free.length fc3]) sh26 rfl hb_13.row rfl) rfl rfl ?_
  refine RL.ev (.move rfl) rfl rfl ?_
  refine RL.call rfl ok12 (c_dRow A3 na3 fa3 nc3 fc3 hn3 hf3 r3 hU3 w10 (hA3.sub S3)) rfl rfl ?_
  rintro _ w12 ⟨s13, a5, c5, V5, e5, rfl, hc5, hs5, _, hy5⟩
  have S := S.trans s13
  have S1 := S1.trans s13
  have hb_7 := hb_7.sub s13
  have S2 := S2.trans s13
  have hb_10 := hb_10.sub s13
  have S3 := S3.trans s13
  have hb_13 := hb_13.sub s13
  have S4 := S4.trans s13
  obtain ⟨rfl, rfl⟩ := hy5 _ _ (row_of hok3 hR3 (by omega)) hR3
  obtain ⟨W5, S5, hs5⟩ : ∃ W5, Sub W5 w12 ∧ Sl W5 a5 1 ((pushL l false z).map fun x => [i6 x]) := ⟨_, Sub.refl _, hs5⟩
  refine RL.ev (.move rfl) rfl rfl ?_
  refine RL.ev (.extract rfl rfl) rfl rfl ?_
  refine RL.ev (.extract rfl rfl) rfl rfl ?_
  refine RL.ev (.assign rfl) rfl rfl ?_
  refine RL.ev (.assign rfl) rfl rfl ?_
  refine RL.nil (RC.back ?_)
  refine RC.seq ?_
  refine RC.region rfl ?_
  refine RL.ev (.loadR ([.slice na3 A3.nodes.length nc3, .slice fa3 A3.free.length fc3]) sh26 rfl hb_13.row rfl) rfl rfl ?_
  refine RL.ev (.move rfl) rfl rfl ?_
  refine RL.call rfl ok12 (c_dRow A3 na3 fa3 nc3 fc3 hn3 hf3 r1 hu1 w12 (hA3.sub S3)) rfl rfl ?_
  rintro _ w14 ⟨s15, a6, c6, V6, e6, rfl, hc6, hs6, _, hy6⟩
  have S := S.trans s15
  have S1 := S1.trans s15
  have hb_7 := hb_7.sub s15
  have S2 := S2.trans s15
  have hb_10 := hb_10.sub s15
  have S3 := S3.trans s15
  have hb_13 := hb_13.sub s15
  have S4 := S4.trans s15
  have S5 := S5.trans s15
  obtain ⟨hV6, rfl⟩ := hy6 _ _ (row_of hok3 ((hR1.ext hE2).ext hE3) (by omega)) ((hR1.ext hE2).ext hE3)
  obtain rfl := hV6.symm
  obtain ⟨W6, S6, hs6⟩ : ∃ W6, Sub W6 w14 ∧ Sl W6 a6 1 (l.map fun x => [i6 x]) := ⟨_, Sub.refl _, hs6⟩
  refine RL.ev (.move rfl) rfl rfl ?_
  refine RL.ev (.extract rfl rfl) rfl rfl ?_
  refine RL.ev (.extract rfl rfl) rfl rfl ?_
  obtain ⟨E, hE⟩ : ∃ E, E = w14.heap.size := ⟨_, rfl⟩
  obtain ⟨WE, hWE, SE⟩ : ∃ W, W.heap.size = E ∧ Sub W w14 := ⟨_, hE.symm, Sub.refl _⟩
  have szS := S.size
  have sz4 := S4.size
  have sz5 := S5.size
  have sz6 := S6.size
  rw [← hE] at szS sz4 sz5 sz6
  refine RL.ev (.assign rfl) rfl rfl ?_
  refine RL.ev (.assign rfl) rfl rfl ?_
  refine RL.nil (RC.back ?_)
  refine RC.seq ?_
  refine RC.region rfl ?_
  refine RL.call rfl ok13 (c_alive11 w14) rfl rfl ?_
  rintro _ w16 ⟨rfl, s17⟩
  have S := S.trans s17
  have hb_7 := hb_7.sub s17
  have hb_10 := hb_10.sub s17
  have hb_13 := hb_13.sub s17
  have S4 := S4.trans s17
  have S5 := S5.trans s17
  have S6 := S6.trans s17
  have SE := SE.trans s17
  refine RL.ev (.move rfl) rfl rfl ?_
  refine RL.ev (.move rfl) rfl rfl ?_
  refine RL.ev (.as (v' := .bool true) (.bin rfl rfl rfl) (congrArg Value.bool (decide_eq_true (rfl)))) rfl rfl ?_
  refine RL.ev (.pick_t rfl rfl) rfl rfl ?_
  refine RL.ev (.move rfl) rfl rfl ?_
  refine RL.ev (.move rfl) rfl rfl ?_
  refine RL.ev (.as (v' := .bool true) (.bin rfl rfl rfl) (congrArg Value.bool (decide_eq_true (rfl)))) rfl rfl ?_
  refine RL.ev (.pick_t rfl rfl) rfl rfl ?_
  refine RL.ev (.move rfl) rfl rfl ?_
  refine RL.ev (.move rfl) rfl rfl ?_
  refine RL.ev (.as (v' := .bool true) (.bin rfl rfl rfl) (congrArg Value.bool (decide_eq_true (rfl)))) rfl rfl ?_
  refine RL.ev (.pick_t rfl rfl) rfl rfl ?_
  refine RL.ev (.move rfl) rfl rfl ?_
  refine RL.ev (.move rfl) rfl rfl ?_
  refine RL.ev (.as (v' := .bool true) (.bin rfl rfl rfl) (congrArg Value.bool (decide_eq_true (rfl)))) rfl rfl ?_
  refine RL.ev (.pick_t rfl rfl) rfl rfl ?_
  refine RL.ev (.move rfl) rfl rfl ?_
  refine RL.ev (.move rfl) rfl rfl ?_
  refine RL.ev (.as (v' := .bool true) (.bin rfl rfl rfl) (congrArg Value.bool (decide_eq_true (rfl)))) rfl rfl ?_
  refine RL.ev (.pick_t rfl rfl) rfl rfl ?_
  refine RL.ev (.move rfl) rfl rfl ?_
  refine RL.ev (.move rfl) rfl rfl ?_
  refine RL.buildSlice0 sl22 rfl rfl (fun b_93 w_93 e_93 z_93 hb_93 s_93 => ?_)
  have ge_93 := S.le e_93
  have n_7__93 := hb_7.ne e_93
  have n_10__93 := hb_10.ne e_93
  have n_13__93 := hb_13.ne e_93
  have S := S.trans s_93
  have hb_7 := hb_7.sub s_93
  have hb_10 := hb_10.sub s_93
  have hb_13 := hb_13.sub s_93
  have geS4_93 := S4.le e_93
  have S4 := S4.trans s_93
  have geS5_93 := S5.le e_93
  have S5 := S5.trans s_93
  have geS6_93 := S6.le e_93
  have S6 := S6.trans s_93
  have geSE_93 := SE.le e_93
  have SE := SE.trans s_93
  have szE := SE.size
  rw [hWE] at szE
  refine RL.ev (.move rfl) rfl rfl ?_
  have sz_95 := S.size
  have ltb_7_95 := hb_7.lt
  have ltb_10_95 := hb_10.lt
  have ltb_13_95 := hb_13.lt
  have szS4_95 := S4.size
  have szS5_95 := S5.size
  have szS6_95 := S6.size
  have szSE_95 := SE.size
  have ltb_93_95 := hb_93.lt
  refine RL.append2 (base := E) (rows := []) (news := l.map fun x => [i6 x]) sl22 ze2 rfl rfl rfl rfl (.inl (Ows.lit0 hb_93 (by omega))) (hs.sub S) (by simp only [List.length_map]) (by intro r hr; obtain ⟨x, _, rfl⟩ := List.mem_map.1 hr; rfl) (by rw [List.all_eq_true]; intro r hr; obtain ⟨x, _, rfl⟩ := List.mem_map.1 hr; rfl) (by (try simp only [List.length_map, List.length_nil, List.length_append, List.length_cons]); omega) (by (try simp only [List.length_map, List.length_nil, List.length_append, List.length_cons]); omega) (by omega) rfl rfl (fun v_95 w_95 hc_95 ho_95 ag_95 ob_95 => ?_)
  have o95 := ho_95 (.inr (Ows.lit0 hb_93 (by omega)))
  have d_o95_b_7 := obNe ob_95 (fun k hk e => n_7__93.symm ((obLit hk).trans e)) hb_7.lt
  have d_o95_b_10 := obNe ob_95 (fun k hk e => n_10__93.symm ((obLit hk).trans e)) hb_10.lt
  have d_o95_b_13 := obNe ob_95 (fun k hk e => n_13__93.symm ((obLit hk).trans e)) hb_13.lt
  have S := S.agrN ag_95 (fun k e => Nat.le_trans (by omega) e.2)
  have hb_7 := hb_7.step ag_95 (fun e => n_7__93.symm (obLit e.1))
  have hb_10 := hb_10.step ag_95 (fun e => n_10__93.symm (obLit e.1))
  have hb_13 := hb_13.step ag_95 (fun e => n_13__93.symm (obLit e.1))
  have S4 := S4.agrN ag_95 (fun k e => Nat.le_trans (by omega) e.2)
  have S5 := S5.agrN ag_95 (fun k e => Nat.le_trans (by omega) e.2)
  have S6 := S6.agrN ag_95 (fun k e => Nat.le_trans (by omega) e.2)
  have SE := SE.agrN ag_95 (fun k e => Nat.le_trans (by omega) e.2)
  obtain ⟨a_95, c_95, rfl, k_95⟩ := o95.form
  refine RL.ev (.move rfl) rfl rfl ?_
  refine RL.buildSlice1 sl22 _ ze2 rfl rfl rfl rfl rfl rfl rfl (fun b_97 w_97 e_97 z_97 hb_97 s_97 => ?_)
  have ge_97 := S.le e_97
  have n_7__97 := hb_7.ne e_97
  have n_10__97 := hb_10.ne e_97
  have n_13__97 := hb_13.ne e_97
  have d_o95_b_97 := o95.neNew e_97
  have S := S.trans s_97
  have hb_7 := hb_7.sub s_97
  have hb_10 := hb_10.sub s_97
  have hb_13 := hb_13.sub s_97
  have geS4_97 := S4.le e_97
  have S4 := S4.trans s_97
  have geS5_97 := S5.le e_97
  have S5 := S5.trans s_97
  have geS6_97 := S6.le e_97
  have S6 := S6.trans s_97
  have geSE_97 := SE.le e_97
  have SE := SE.trans s_97
  have o95 := o95.sub s_97
  have sz_98 := S.size
  have ltb_7_98 := hb_7.lt
  have ltb_10_98 := hb_10.lt
  have ltb_13_98 := hb_13.lt
  have szS4_98 := S4.size
  have szS5_98 := S5.size
  have szS6_98 := S6.size
  have szSE_98 := SE.size
  have ltb_97_98 := hb_97.lt
  refine RL.append2 (base := E) (rows := l.map fun x => [i6 x]) (news := [_]) sl22 ze2 rfl rfl rfl rfl (.inl o95) (Has.slOne hb_97) rfl (by intro r hr; rw [List.mem_singleton] at hr; subst hr; rfl) rfl (by (try simp only [List.length_map, List.length_nil, List.length_append, List.length_cons]); omega) (by (try simp only [List.length_map, List.length_nil, List.length_append, List.length_cons]); omega) (by omega) rfl rfl (fun v_98 w_98 hc_98 ho_98 ag_98 ob_98 => ?_)
  have o98 := ho_98 (.inl (by simp))
  rw [show _ ++ [_] = ((l ++ [v]).map fun x => [i6 x]) from by rw [List.map_append]; rfl] at o98
  have d_o98_b_7 := obNe ob_98 d_o95_b_7 hb_7.lt
  have d_o98_b_10 := obNe ob_98 d_o95_b_10 hb_10.lt
  have d_o98_b_13 := obNe ob_98 d_o95_b_13 hb_13.lt
  have S := S.agrN ag_98 (fun k e => Nat.le_trans (by omega) e.2)
  have hb_7 := hb_7.step ag_98 (fun e => d_o95_b_7 _ e.1 rfl)
  have hb_10 := hb_10.step ag_98 (fun e => d_o95_b_10 _ e.1 rfl)
  have hb_13 := hb_13.step ag_98 (fun e => d_o95_b_13 _ e.1 rfl)
  have S4 := S4.agrN ag_98 (fun k e => Nat.le_trans (by omega) e.2)
  have S5 := S5.agrN ag_98 (fun k e => Nat.le_trans (by omega) e.2)
  have S6 := S6.agrN ag_98 (fun k e => Nat.le_trans (by omega) e.2)
  have SE := SE.agrN ag_98 (fun k e => Nat.le_trans (by omega) e.2)
  obtain ⟨a_98, c_98, rfl, k_98⟩ := o98.form
  refine RL.call rfl ok14 (c_same11y (pushL l true v) (l ++ [v]) rfl a4 a_98 c4 c_98 _ _ (List.length_map _) (List.length_map _) w_98 (hs4.sub S4) o98.sl.1 (by omega)) rfl rfl ?_
  rintro _ w18 ⟨rfl, s19⟩
  have S := S.trans s19
  have hb_7 := hb_7.sub s19
  have hb_10 := hb_10.sub s19
  have hb_13 := hb_13.sub s19
  have S4 := S4.trans s19
  have S5 := S5.trans s19
  have S6 := S6.trans s19
  have SE := SE.trans s19
  have o98 := o98.sub s19
  refine RL.ev (.pick_t rfl rfl) rfl rfl ?_
  refine RL.ev (.move rfl) rfl rfl ?_
  refine RL.ev (.move rfl) rfl rfl ?_
  refine RL.ev (.move rfl) rfl rfl ?_
  refine RL.buildSlice1 sl22 _ ze2 rfl rfl rfl rfl rfl rfl rfl (fun b_104 w_104 e_104 z_104 hb_104 s_104 => ?_)
  have ge_104 := S.le e_104
  have n_7__104 := hb_7.ne e_104
  have n_10__104 := hb_10.ne e_104
  have n_13__104 := hb_13.ne e_104
  have d_o98_b_104 := o98.neNew e_104
  have S := S.trans s_104
  have hb_7 := hb_7.sub s_104
  have hb_10 := hb_10.sub s_104
  have hb_13 := hb_13.sub s_104
  have geS4_104 := S4.le e_104
  have S4 := S4.trans s_104
  have geS5_104 := S5.le e_104
  have S5 := S5.trans s_104
  have geS6_104 := S6.le e_104
  have S6 := S6.trans s_104
  have geSE_104 := SE.le e_104
  have SE := SE.trans s_104
  have o98 := o98.sub s_104
  refine RL.ev (.move rfl) rfl rfl ?_
  have sz_106 := S.size
  have ltb_7_106 := hb_7.lt
  have ltb_10_106 := hb_10.lt
  have ltb_13_106 := hb_13.lt
  have szS4_106 := S4.size
  have szS5_106 := S5.size
  have szS6_106 := S6.size
  have szSE_106 := SE.size
  have ltb_104_106 := hb_104.lt
  refine RL.append2 (base := E) (rows := [[i6 z]]) (news := l.map fun x => [i6 x]) sl22 ze2 rfl rfl rfl rfl (.inl (Ows.of_has (rows := [[i6 z]]) (extra := []) hb_104 (by simp) (by omega) (Nat.le_refl _) (by decide) rfl)) (hs.sub S) (by simp only [List.length_map]) (by intro r hr; obtain ⟨x, _, rfl⟩ := List.mem_map.1 hr; rfl) (by rw [List.all_eq_true]; intro r hr; obtain ⟨x, _, rfl⟩ := List.mem_map.1 hr; rfl) (by (try simp only [List.length_map, List.length_nil, List.length_append, List.length_cons]); omega) (by (try simp only [List.length_map, List.length_nil, List.length_append, List.length_cons]); omega) (by omega) rfl rfl (fun v_106 w_106 hc_106 ho_106 ag_106 ob_106 => ?_)
  have o106 := ho_106 (.inr (Ows.of_has (rows := [[i6 z]]) (extra := []) hb_104 (by simp) (by omega) (Nat.le_refl _) (by decide) rfl))
  have d_o106_b_7 := obNe ob_106 (fun k hk e => n_7__104.symm ((obLit hk).trans e)) hb_7.lt
  have d_o106_b_10 := obNe ob_106 (fun k hk e => n_10__104.symm ((obLit hk).trans e)) hb_10.lt
  have d_o106_b_13 := obNe ob_106 (fun k hk e => n_13__104.symm ((obLit hk).trans e)) hb_13.lt
  have dd_o106_o98 := obDD ob_106 (fun k hk h2 => d_o98_b_104 k h2 (obLit hk).symm) (fun k hk => (o98.ge k hk).2)
  have S := S.agrN ag_106 (fun k e => Nat.le_trans (by omega) e.2)
  have hb_7 := hb_7.step ag_106 (fun e => n_7__104.symm (obLit e.1))
  have hb_10 := hb_10.step ag_106 (fun e => n_10__104.symm (obLit e.1))
  have hb_13 := hb_13.step ag_106 (fun e => n_13__104.symm (obLit e.1))
  have S4 := S4.agrN ag_106 (fun k e => Nat.le_trans (by omega) e.2)
  have S5 := S5.agrN ag_106 (fun k e => Nat.le_trans (by omega) e.2)
  have S6 := S6.agrN ag_106 (fun k e => Nat.le_trans (by omega) e.2)
  have SE := SE.agrN ag_106 (fun k e => Nat.le_trans (by omega) e.2)
  have o98 := o98.step ag_106 (fun k hk e => (fun k hk h2 => d_o98_b_104 k h2 (obLit hk).symm) k e.1 hk)
  obtain ⟨a_106, c_106, rfl, k_106⟩ := o106.form
  refine RL.call rfl ok14 (c_same11y (pushL l false z) (z :: l) rfl a5 a_106 c5 c_106 _ _ (List.length_map _) (by rw [List.length_append, List.length_map]; simp; omega) w_106 (hs5.sub S5) o106.sl.1 (by omega)) rfl rfl ?_
  rintro _ w20 ⟨rfl, s21⟩
  have S := S.trans s21
  have hb_7 := hb_7.sub s21
  have hb_10 := hb_10.sub s21
  have hb_13 := hb_13.sub s21
  have S4 := S4.trans s21
  have S5 := S5.trans s21
  have S6 := S6.trans s21
  have SE := SE.trans s21
  have o98 := o98.sub s21
  have o106 := o106.sub s21
  refine RL.ev (.pick_t rfl rfl) rfl rfl ?_
  refine RL.ev (.move rfl) rfl rfl ?_
  refine RL.ev (.move rfl) rfl rfl ?_
  refine RL.ev (.move rfl) rfl rfl ?_
  refine RL.call rfl ok14 (c_same11y l l rfl a6 pa c6 pc _ _ (List.length_map _) rfl w20 (hs6.sub S6) (hs.sub S) (by omega)) rfl rfl ?_
  rintro _ w22 ⟨rfl, s23⟩
  have S := S.trans s23
  have hb_7 := hb_7.sub s23
  have hb_10 := hb_10.sub s23
  have hb_13 := hb_13.sub s23
  have S4 := S4.trans s23
  have S5 := S5.trans s23
  have S6 := S6.trans s23
  have SE := SE.trans s23
  have o98 := o98.sub s23
  have o106 := o106.sub s23
  refine RL.ev (.pick_t rfl rfl) rfl rfl ?_
  refine RL.ev (.assign rfl) rfl rfl ?_
  refine RL.nil (RC.back ?_)
  refine RC.done (rs := [.tmp 6]) (vs := [_]) rfl rfl ⟨rfl, trivial⟩ ?_
  -- end 1
  exact ⟨rfl, S⟩
end Go.Proofs.Ytefakjhfcgjhgaa
