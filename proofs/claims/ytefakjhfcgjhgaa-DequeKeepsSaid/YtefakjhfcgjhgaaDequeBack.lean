/-
  The statement DequeBack.
-/
import Derived.Test.YtefakjhfcgjhgaaDequeJoins
set_option linter.unusedVariables false
set_option linter.unusedSimpArgs false
namespace Go.Proofs.Ytefakjhfcgjhgaa
open Go Go.XL

theorem cut_good {A B : Ar} {r r1 r2 e p : Int} {V P : List Int} (h : ∀ V P, isRow A r → IsR A r V P → (¬ (0 ≤ p ∧ p ≤ V.length) ∧ e = 5) ∨ (0 ≤ p ∧ p ≤ V.length ∧ e = 2 ∧ A.free.length < V.length) ∨
      (0 ≤ p ∧ p ≤ V.length ∧ e = 0 ∧ Ext A B ∧ AOk B ∧ A.free.length ≤ B.free.length + V.length ∧ ∃ M N, IsR B r1 (V.take p.toNat) M ∧ IsR B r2 (V.drop p.toNat) N ∧ ∀ q ∈ M, ¬ q ∈ N))
    (hA : AOk A) (hV : IsR A r V P) (hl : V.length ≤ 200) (hf : V.length ≤ A.free.length) (hp : 0 ≤ p ∧ p ≤ V.length) :
    e = 0 ∧ Ext A B ∧ AOk B ∧ A.free.length ≤ B.free.length + V.length ∧ ∃ M N, IsR B r1 (V.take p.toNat) M ∧ IsR B r2 (V.drop p.toNat) N ∧ ∀ q ∈ M, ¬ q ∈ N := by
  rcases h V P (row_of hA hV hl) hV with h | h | h
  · exact absurd hp h.1
  · omega
  · exact h.2.2
set_option maxHeartbeats 4000000 in
theorem law_DequeBack (w : World) (l0 : List Int) (pa : Option Addr) (pc : Nat) (hlc : l0.length ≤ pc) (hcm : pc ≤ maxLen) (hs0 : Sl w pa 1 (l0.map fun x => [i6 x])) (hli0 : ∀ x ∈ l0, I64 x) (v : Int) (wv : (Lit.int .i64 v).wf = true) (back : Bool) (p : Int) (wp : (Lit.int .i64 p).wf = true) :
    FC Try.prog 6 [.slice pa l0.length pc, .int .i64 v, .bool back, .int .i64 p] w (Val (.bool true) w) := by
  have hv : I64 v := wfI wv
  have hp : -9223372036854775808 ≤ p ∧ p ≤ 9223372036854775807 := wfI wp
  have hll : l0.length ≤ 9223372036854775807 := Nat.le_trans hlc (Nat.le_trans hcm (by decide))
  obtain ⟨l, hl⟩ : ∃ l, l = l0.take 30 := ⟨_, rfl⟩
  have hl30 : l.length ≤ 30 := by rw [hl, List.length_take]; omega
  have hlp : l.length ≤ pc := by rw [hl, List.length_take]; omega
  have hs : Sl w pa 1 (l.map fun x => [i6 x]) := by rw [hl, List.map_take]; exact hs0.take 30
  have hli : ∀ x ∈ l, I64 x := fun x hx => hli0 x (List.mem_of_mem_take (hl ▸ hx))
  obtain ⟨r1, hr1⟩ : ∃ r : Int, r = if l.length = 0 then 0 else 1 := ⟨_, rfl⟩
  have hu1 : U64 r1 := hr1 ▸ one_u l
  have hB := build2_ok (size := 400) (l := l) (m := []) (by simp; omega) (by decide) (by decide)
  obtain ⟨P1, _, hR1, _⟩ := hB.rows
  rw [← hr1] at hR1
  have hBf := hB.free
  have hBo := hB.ok
  simp only [List.length_nil] at hBf
  obtain ⟨A1, hAe⟩ : ∃ A, build2A 400 l [] = A := ⟨_, rfl⟩
  rw [hAe] at hR1 hBf hBo
  have nmp := norm_mod p ((l.length + 1 : Nat) : Int) (by omega)
  obtain ⟨k, hk⟩ := Int.eq_ofNat_of_zero_le (Int.emod_nonneg p (show ((l.length + 1 : Nat) : Int) ≠ 0 by omega))
  have hkn : k < l.length + 1 := by have := Int.emod_lt_of_pos p (show 0 < ((l.length + 1 : Nat) : Int) by omega); omega
  obtain ⟨hpp1, hpp2⟩ := pop_push l back v
  have hlpu := pushL_len l back v
  refine FC.intro Try.func6 rfl Try.ntmps6 rfl ?_
  have S := Sub.refl w
  refine RC.seq ?_
  refine RC.region rfl ?_
  refine RL.ev (.assign rfl) rfl rfl ?_
  refine RL.nil (RC.back ?_)
  refine RC.seq ?_
  refine RC.region rfl ?_
  refine RL.ev (.move rfl) rfl rfl ?_
  refine RL.ev (.move rfl) rfl rfl ?_
  refine RL.ev (.len sl22 rfl) rfl rfl ?_
  refine RL.ev (.min2 rfl rfl) rfl rfl ?_
  refine RL.ev (.as (v' := .slice pa l.length pc) (.sliceHi sl22 rfl rfl (by split <;> omega)) (by rw [hl, ← min_len]; rfl)) rfl rfl ?_
  refine RL.ev (.assign rfl) rfl rfl ?_
  refine RL.nil (RC.back ?_)
  refine RC.seq ?_
  refine RC.region rfl ?_
  refine RL.ev (.as (v' := .slice pa l.length pc) (.move rfl) (by rfl)) rfl rfl ?_
  refine RL.call rfl ok10 ((hAe ▸ c_build11 400 l [] pa none pc 0 l.length 0 rfl rfl hlp (Nat.zero_le _) hli (by simp) (by simp; omega) (by decide) (by decide) w (hs.sub S) (Sl.nil _ _ _))) rfl rfl ?_
  rintro _ w1 ⟨na1, fa1, nc1, fc1, rfl, hn1, hf1, hi1, s2⟩
  have hA1 := (hi1 (fun _ => False) (fun _ h => h.elim)).now
  have S := S.trans s2
  obtain ⟨W1, S1, hA1⟩ : ∃ W, Sub W w1 ∧ ArR W na1 fa1 A1 := ⟨_, Sub.refl _, hA1⟩
  have hG1 := Ft.of_sub fun u s => hA1.sub s
  refine RL.ev (.move rfl) rfl rfl ?_
  refine RL.ev (.extract rfl rfl) rfl rfl ?_
  refine RL.ev (.extract rfl rfl) rfl rfl ?_
  refine RL.alloc ze26 rfl rfl (fun b_9 w_9 e_9 z_9 hb_9 s_9 => ?_)
  have ge_9 := S.le e_9
  have S := S.trans s_9
  have geS1_9 := S1.le e_9
  have S1 := S1.trans s_9
  refine RL.store sh26 rfl rfl rfl hb_9 (by exact Nat.le_of_ble_eq_true rfl) (by rfl) rfl (fun w3 z3 hb_9 a3 => ?_)
  have S := S.upd a3 ge_9
  have S1 := S1.upd a3 geS1_9
  have hb_9 : Has w3 b_9 ([.slice na1 A1.nodes.length nc1, .slice fa1 A1.free.length fc1]) _ := hb_9.now (by kernel_rfl)
  refine RL.ev (.assign rfl) rfl rfl ?_
  refine RL.nil (RC.back ?_)
  refine RC.seq ?_
  refine RC.region rfl ?_
  refine RL.ev (.move rfl) rfl rfl ?_
  refine RL.ev (.len sl22 rfl) rfl rfl ?_
  refine RL.ev (.min2 rfl rfl) rfl rfl ?_
  refine RL.ev (.as (v' := .int .u64 r1) (.conv i3 i28 rfl) (by rw [hr1, ← one_ref])) rfl rfl ?_
  refine RL.ev (.assign rfl) rfl rfl ?_
  refine RL.nil (RC.back ?_)
  refine RC.seq ?_
  refine RC.region rfl ?_
  refine RL.ev (.loadR ([.slice na1 A1.nodes.length nc1, .slice fa1 A1.free.length fc1]) sh26 rfl hb_9.row rfl) rfl rfl ?_
  refine RL.ev (.move rfl) rfl rfl ?_
  refine RL.ev (.move rfl) rfl rfl ?_
  refine RL.ev (.move rfl) rfl rfl ?_
  refine RL.call rfl ok11 (c_dpush A1 na1 fa1 nc1 fc1 hn1 hf1 r1 back v hu1 hv _ w3 (hG1.sub S1)) rfl rfl ?_
  rintro _ w4 ⟨s5, na2, fa2, nc2, fc2, A2, r2, e2, M2, rfl, hU2, hn2, hf2, hA2, _, hp2⟩
  have S := S.trans s5
  have S1 := S1.trans s5
  have hb_9 := hb_9.sub s5
  obtain ⟨rfl, hE2, hok2, hF2, P2, hR2⟩ := hp2.good hBo hR1 (by omega) (by omega)
  obtain ⟨W2, S2, hA2⟩ : ∃ W, Sub W w4 ∧ ArR W na2 fa2 A2 := ⟨_, Sub.refl _, hA2.now⟩
  have hG2 := Ft.of_sub fun u s => hA2.sub s
  refine RL.ev (.move rfl) rfl rfl ?_
  refine RL.ev (.extract rfl rfl) rfl rfl ?_
  refine RL.ev (.extract rfl rfl) rfl rfl ?_
  refine RL.ev (.extract rfl rfl) rfl rfl ?_
  refine RL.alloc ze26 rfl rfl (fun b_12 w_12 e_12 z_12 hb_12 s_12 => ?_)
  have ge_12 := S.le e_12
  have n_9__12 := hb_9.ne e_12
  have S := S.trans s_12
  have geS1_12 := S1.le e_12
  have S1 := S1.trans s_12
  have hb_9 := hb_9.sub s_12
  have geS2_12 := S2.le e_12
  have S2 := S2.trans s_12
  refine RL.store sh26 rfl rfl rfl hb_12 (by exact Nat.le_of_ble_eq_true rfl) (by rfl) rfl (fun w6 z6 hb_12 a6 => ?_)
  have S := S.upd a6 ge_12
  have S1 := S1.upd a6 geS1_12
  have hb_9 := hb_9.upd a6 n_9__12
  have S2 := S2.upd a6 geS2_12
  have hb_12 : Has w6 b_12 ([.slice na2 A2.nodes.length nc2, .slice fa2 A2.free.length fc2]) _ := hb_12.now (by kernel_rfl)
  refine RL.ev (.assign rfl) rfl rfl ?_
  refine RL.ev (.assign rfl) rfl rfl ?_
  refine RL.nil (RC.back ?_)
  refine RC.seq ?_
  refine RC.region rfl ?_
  refine RL.ev (.loadR ([.slice na2 A2.nodes.length nc2, .slice fa2 A2.free.length fc2]) sh26 rfl hb_12.row rfl) rfl rfl ?_
  refine RL.ev (.move rfl) rfl rfl ?_
  refine RL.ev (.move rfl) rfl rfl ?_
  refine RL.call rfl ok16 (c_dpop A2 na2 fa2 nc2 fc2 hn2 hf2 r2 back hU2 _ w6 (hG2.sub S2)) rfl rfl ?_
  rintro _ w7 ⟨s8, na3, fa3, nc3, fc3, A3, r3, v3, e3, M3, rfl, hU3, _, hn3, hf3, hA3, _, _, _, hp3⟩
  have S := S.trans s8
  have S1 := S1.trans s8
  have hb_9 := hb_9.sub s8
  have S2 := S2.trans s8
  have hb_12 := hb_12.sub s8
  obtain ⟨_, rfl, hv3, hE3, hok3, hF3, P3, hR3⟩ := (pop_good hp3 hok2 hR2 (by omega) (by omega)).resolve_left (fun h => by rw [h.1] at hlpu; simp at hlpu)
  rw [hpp1] at hR3
  rw [hpp2] at hv3
  obtain ⟨W3, S3, hA3⟩ : ∃ W, Sub W w7 ∧ ArR W na3 fa3 A3 := ⟨_, Sub.refl _, hA3.now⟩
  refine RL.ev (.move rfl) rfl rfl ?_
  refine RL.ev (.extract rfl rfl) rfl rfl ?_
  refine RL.ev (.extract rfl rfl) rfl rfl ?_
  refine RL.ev (.extract rfl rfl) rfl rfl ?_
  refine RL.ev (.extract rfl rfl) rfl rfl ?_
  refine RL.alloc ze26 rfl rfl (fun b_15 w_15 e_15 z_15 hb_15 s_15 => ?_)
  have ge_15 := S.le e_15
  have n_9__15 := hb_9.ne e_15
  have n_12__15 := hb_12.ne e_15
  have S := S.trans s_15
  have geS1_15 := S1.le e_15
  have S1 := S1.trans s_15
  have hb_9 := hb_9.sub s_15
  have geS2_15 := S2.le e_15
  have S2 := S2.trans s_15
  have hb_12 := hb_12.sub s_15
  have geS3_15 := S3.le e_15
  have S3 := S3.trans s_15
  refine RL.store sh26 rfl rfl rfl hb_15 (by exact Nat.le_of_ble_eq_true rfl) (by rfl) rfl (fun w9 z9 hb_15 a9 => ?_)
  have S := S.upd a9 ge_15
  have S1 := S1.upd a9 geS1_15
  have hb_9 := hb_9.upd a9 n_9__15
  have S2 := S2.upd a9 geS2_15
  have hb_12 := hb_12.upd a9 n_12__15
  have S3 := S3.upd a9 geS3_15
  have hb_15 : Has w9 b_15 ([.slice na3 A3.nodes.length nc3, .slice fa3 A3.free.length fc3]) _ := hb_15.now (by kernel_rfl)
  refine RL.ev (.assign rfl) rfl rfl ?_
  refine RL.ev (.assign rfl) rfl rfl ?_
  refine RL.ev (.assign rfl) rfl rfl ?_
  refine RL.nil (RC.back ?_)
  refine RC.seq ?_
  refine RC.region rfl ?_
  refine RL.ev (.move rfl) rfl rfl ?_
  refine RL.ev (.move rfl) rfl rfl ?_
  refine RL.ev (.len sl22 rfl) rfl rfl ?_
  refine RL.ev (.as (.bin rfl rfl rfl) (wi64 (y := ((l.length + 1 : Nat) : Int)) (by omega) (by omega))) rfl rfl ?_
  refine RL.ev (.rem rfl rfl (by omega)) rfl rfl ?_
  refine RL.ev (.move rfl) rfl rfl ?_
  refine RL.ev (.len sl22 rfl) rfl rfl ?_
  refine RL.ev (.as (.bin rfl rfl rfl) (wi64 (y := p.tmod ((l.length + 1 : Nat) : Int) + l.length) (by rfl) (by omega))) rfl rfl ?_
  refine RL.ev (.as (.bin rfl rfl rfl) (wi64 (y := p.tmod ((l.length + 1 : Nat) : Int) + ((l.length + 1 : Nat) : Int)) (by omega) (by omega))) rfl rfl ?_
  refine RL.ev (.move rfl) rfl rfl ?_
  refine RL.ev (.len sl22 rfl) rfl rfl ?_
  refine RL.ev (.as (.bin rfl rfl rfl) (wi64 (y := ((l.length + 1 : Nat) : Int)) (by omega) (by omega))) rfl rfl ?_
  refine RL.ev (.as (v' := .int .i64 (k : Int)) (.rem rfl rfl (by omega)) (by rw [nmp.2.2, hk])) rfl rfl ?_
  refine RL.ev (.assign rfl) rfl rfl ?_
  refine RL.nil (RC.back ?_)
  refine RC.seq ?_
  refine RC.region rfl ?_
  refine RL.ev (.loadR ([.slice na1 A1.nodes.length nc1, .slice fa1 A1.free.length fc1]) sh26 rfl hb_9.row rfl) rfl rfl ?_
  refine RL.ev (.move rfl) rfl rfl ?_
  refine RL.ev (.move rfl) rfl rfl ?_
  refine RL.call rfl ok19 (c_dcut A1 na1 fa1 nc1 fc1 hn1 hf1 r1 (k : Int) hu1 (by unfold I64; omega) _ w9 (hG1.sub S1)) rfl rfl ?_
  rintro _ w10 ⟨s11, na4, fa4, nc4, fc4, A4, r4, r5, e4, M4, rfl, hU4, hU5, hn4, hf4, hA4, _, _, _, hp4⟩
  have S := S.trans s11
  have S1 := S1.trans s11
  have hb_9 := hb_9.sub s11
  have S2 := S2.trans s11
  have hb_12 := hb_12.sub s11
  have S3 := S3.trans s11
  have hb_15 := hb_15.sub s11
  obtain ⟨rfl, hE4, hok4, hF4, P4, P5, hR4, hR5, _⟩ := cut_good hp4 hBo hR1 (by omega) (by omega) ⟨by omega, by omega⟩
  rw [Int.toNat_natCast] at hR4 hR5
  have hl4 : (l.take k).length = k := (by rw [List.length_take]; omega)
  have hl5 : (l.drop k).length = l.length - k := List.length_drop
  obtain ⟨W4, S4, hA4⟩ : ∃ W, Sub W w10 ∧ ArR W na4 fa4 A4 := ⟨_, Sub.refl _, hA4.now⟩
  refine RL.ev (.move rfl) rfl rfl ?_
  refine RL.ev (.extract rfl rfl) rfl rfl ?_
  refine RL.ev (.extract rfl rfl) rfl rfl ?_
  refine RL.ev (.extract rfl rfl) rfl rfl ?_
  refine RL.ev (.extract rfl rfl) rfl rfl ?_
  refine RL.alloc ze26 rfl rfl (fun b_19 w_19 e_19 z_19 hb_19 s_19 => ?_)
  have ge_19 := S.le e_19
  have n_9__19 := hb_9.ne e_19
  have n_12__19 := hb_12.ne e_19
  have n_15__19 := hb_15.ne e_19
  have S := S.trans s_19
  have geS1_19 := S1.le e_19
  have S1 := S1.trans s_19
  have hb_9 := hb_9.sub s_19
  have geS2_19 := S2.le e_19
  have S2 := S2.trans s_19
  have hb_12 := hb_12.sub s_19
  have geS3_19 := S3.le e_19
  have S3 := S3.trans s_19
  have hb_15 := hb_15.sub s_19
  have geS4_19 := S4.le e_19
  have S4 := S4.trans s_19
  refine RL.store sh26 rfl rfl rfl hb_19 (by exact Nat.le_of_ble_eq_true rfl) (by rfl) rfl (fun w12 z12 hb_19 a12 => ?_)
  have S := S.upd a12 ge_19
  have S1 := S1.upd a12 geS1_19
  have hb_9 := hb_9.upd a12 n_9__19
  have S2 := S2.upd a12 geS2_19
  have hb_12 := hb_12.upd a12 n_12__19
  have S3 := S3.upd a12 geS3_19
  have hb_15 := hb_15.upd a12 n_15__19
  have S4 := S4.upd a12 geS4_19
  have hb_19 : Has w12 b_19 ([.slice na4 A4.nodes.length nc4, .slice fa4 A4.free.length fc4]) _ := hb_19.now (by kernel_rfl)
  refine RL.ev (.assign rfl) rfl rfl ?_
  refine RL.ev (.assign rfl) rfl rfl ?_
  refine RL.ev (.assign rfl) rfl rfl ?_
  refine RL.nil (RC.back ?_)
  refine RC.seq ?_
  refine RC.region rfl ?_
  refine RL.ev (.loadR ([.slice na3 A3.nodes.length nc3, .slice fa3 A3.free.length fc3]) sh26 rfl hb_15.row rfl) rfl rfl ?_
  refine RL.ev (.move rfl) rfl rfl ?_
  refine RL.call rfl ok12 (c_dRow A3 na3 fa3 nc3 fc3 hn3 hf3 r3 hU3 w12 (hA3.sub S3)) rfl rfl ?_
  rintro _ w13 ⟨s14, a6, c6, V6, e6, rfl, hc6, hs6, _, hy6⟩
  have S := S.trans s14
  have S1 := S1.trans s14
  have hb_9 := hb_9.sub s14
  have S2 := S2.trans s14
  have hb_12 := hb_12.sub s14
  have S3 := S3.trans s14
  have hb_15 := hb_15.sub s14
  have S4 := S4.trans s14
  have hb_19 := hb_19.sub s14
  obtain ⟨hV6, rfl⟩ := hy6 _ _ (row_of hok3 hR3 (by omega)) hR3
  obtain rfl := hV6.symm
  obtain ⟨W6, S6, hs6⟩ : ∃ W6, Sub W6 w13 ∧ Sl W6 a6 1 (l.map fun x => [i6 x]) := ⟨_, Sub.refl _, hs6⟩
  refine RL.ev (.move rfl) rfl rfl ?_
  refine RL.ev (.extract rfl rfl) rfl rfl ?_
  refine RL.ev (.extract rfl rfl) rfl rfl ?_
  refine RL.ev (.assign rfl) rfl rfl ?_
  refine RL.ev (.assign rfl) rfl rfl ?_
  refine RL.nil (RC.back ?_)
  refine RC.seq ?_
  refine RC.region rfl ?_
  refine RL.ev (.loadR ([.slice na4 A4.nodes.length nc4, .slice fa4 A4.free.length fc4]) sh26 rfl hb_19.row rfl) rfl rfl ?_
  refine RL.ev (.move rfl) rfl rfl ?_
  refine RL.call rfl ok20 (c_dSize A4 na4 fa4 nc4 fc4 hn4 hf4 r4 hU4 w13 (hA4.sub S4)) rfl rfl ?_
  rintro _ w15 ⟨s16, n7, e7, rfl, _, hy7⟩
  have S := S.trans s16
  have S1 := S1.trans s16
  have hb_9 := hb_9.sub s16
  have S2 := S2.trans s16
  have hb_12 := hb_12.sub s16
  have S3 := S3.trans s16
  have hb_15 := hb_15.sub s16
  have S4 := S4.trans s16
  have hb_19 := hb_19.sub s16
  have S6 := S6.trans s16
  obtain ⟨hn7, rfl⟩ := hy7 _ _ (row_of hok4 hR4 (by omega)) hR4
  refine RL.ev (.move rfl) rfl rfl ?_
  refine RL.ev (.extract rfl rfl) rfl rfl ?_
  refine RL.ev (.extract rfl rfl) rfl rfl ?_
  refine RL.ev (.assign rfl) rfl rfl ?_
  refine RL.ev (.assign rfl) rfl rfl ?_
  refine RL.nil (RC.back ?_)
  refine RC.seq ?_
  refine RC.region rfl ?_
  refine RL.ev (.loadR ([.slice na4 A4.nodes.length nc4, .slice fa4 A4.free.length fc4]) sh26 rfl hb_19.row rfl) rfl rfl ?_
  refine RL.ev (.move rfl) rfl rfl ?_
  refine RL.call rfl ok20 (c_dSize A4 na4 fa4 nc4 fc4 hn4 hf4 r5 hU5 w15 (hA4.sub S4)) rfl rfl ?_
  rintro _ w17 ⟨s18, n8, e8, rfl, _, hy8⟩
  have S := S.trans s18
  have S1 := S1.trans s18
  have hb_9 := hb_9.sub s18
  have S2 := S2.trans s18
  have hb_12 := hb_12.sub s18
  have S3 := S3.trans s18
  have hb_15 := hb_15.sub s18
  have S4 := S4.trans s18
  have hb_19 := hb_19.sub s18
  have S6 := S6.trans s18
  obtain ⟨hn8, rfl⟩ := hy8 _ _ (row_of hok4 hR5 (by omega)) hR5
  refine RL.ev (.move rfl) rfl rfl ?_
  refine RL.ev (.extract rfl rfl) rfl rfl ?_
  refine RL.ev (.extract rfl rfl) rfl rfl ?_
  refine RL.ev (.assign rfl) rfl rfl ?_
  refine RL.ev (.assign rfl) rfl rfl ?_
  refine RL.nil (RC.back ?_)
  refine RC.seq ?_
  refine RC.region rfl ?_
  refine RL.call rfl ok13 (c_alive11 w17) rfl rfl ?_
  rintro _ w19 ⟨rfl, s20⟩
  have S := S.trans s20
  have S1 := S1.trans s20
  have hb_9 := hb_9.sub s20
  have S2 := S2.trans s20
  have hb_12 := hb_12.sub s20
  have S3 := S3.trans s20
  have hb_15 := hb_15.sub s20
  have S4 := S4.trans s20
  have hb_19 := hb_19.sub s20
  have S6 := S6.trans s20
  refine RL.ev (.move rfl) rfl rfl ?_
  refine RL.ev (.move rfl) rfl rfl ?_
  refine RL.ev (.as (v' := .bool true) (.bin rfl rfl rfl) (congrArg Value.bool (decide_eq_true (rfl)))) rfl rfl ?_
  refine RL.ev (.pick_t rfl rfl) rfl rfl ?_
  refine RL.ev (.move rfl) rfl rfl ?_
  refine RL.ev (.move rfl) rfl rfl ?_
  refine RL.ev (.as (v' := .bool true) (.bin rfl rfl rfl) (congrArg Value.bool (decide_eq_true (rfl)))) rfl rfl ?_
  refine RL.ev (.pick_t rfl rfl) rfl rfl ?_
  refine RL.ev (.move rfl) rfl rfl ?_
  refine RL.ev (.move rfl) rfl rfl ?_
  refine RL.ev (.as (v' := .bool true) (.bin rfl rfl rfl) (congrArg Value.bool (decide_eq_true (rfl)))) rfl rfl ?_
  refine RL.ev (.pick_t rfl rfl) rfl rfl ?_
  refine RL.ev (.move rfl) rfl rfl ?_
  refine RL.ev (.move rfl) rfl rfl ?_
  refine RL.ev (.as (v' := .bool true) (.bin rfl rfl rfl) (congrArg Value.bool (decide_eq_true (rfl)))) rfl rfl ?_
  refine RL.ev (.pick_t rfl rfl) rfl rfl ?_
  refine RL.ev (.move rfl) rfl rfl ?_
  refine RL.ev (.move rfl) rfl rfl ?_
  refine RL.ev (.as (v' := .bool true) (.bin rfl rfl rfl) (congrArg Value.bool (decide_eq_true (rfl)))) rfl rfl ?_
  refine RL.ev (.pick_t rfl rfl) rfl rfl ?_
  refine RL.ev (.move rfl) rfl rfl ?_
  refine RL.ev (.move rfl) rfl rfl ?_
  refine RL.ev (.as (v' := .bool true) (.bin rfl rfl rfl) (congrArg Value.bool (decide_eq_true (rfl)))) rfl rfl ?_
  refine RL.ev (.pick_t rfl rfl) rfl rfl ?_
  refine RL.ev (.move rfl) rfl rfl ?_
  refine RL.ev (.move rfl) rfl rfl ?_
  refine RL.ev (.move rfl) rfl rfl ?_
  refine RL.ev (.as (v' := .bool true) (.bin rfl rfl rfl) (congrArg Value.bool (decide_eq_true (hv3)))) rfl rfl ?_
  refine RL.ev (.pick_t rfl rfl) rfl rfl ?_
  refine RL.ev (.move rfl) rfl rfl ?_
  refine RL.ev (.move rfl) rfl rfl ?_
  refine RL.ev (.move rfl) rfl rfl ?_
  refine RL.call rfl ok14 (c_same11y l l rfl a6 pa c6 pc _ _ (List.length_map _) rfl w19 (hs6.sub S6) (hs.sub S) (by omega)) rfl rfl ?_
  rintro _ w21 ⟨rfl, s22⟩
  have S := S.trans s22
  have S1 := S1.trans s22
  have hb_9 := hb_9.sub s22
  have S2 := S2.trans s22
  have hb_12 := hb_12.sub s22
  have S3 := S3.trans s22
  have hb_15 := hb_15.sub s22
  have S4 := S4.trans s22
  have hb_19 := hb_19.sub s22
  have S6 := S6.trans s22
  refine RL.ev (.pick_t rfl rfl) rfl rfl ?_
  refine RL.ev (.move rfl) rfl rfl ?_
  refine RL.ev (.move rfl) rfl rfl ?_
  refine RL.ev (.move rfl) rfl rfl ?_
  refine RL.ev (.as (v' := .bool true) (.bin rfl rfl rfl) (congrArg Value.bool (decide_eq_true (by omega)))) rfl rfl ?_
  refine RL.ev (.pick_t rfl rfl) rfl rfl ?_
  refine RL.ev (.move rfl) rfl rfl ?_
  refine RL.ev (.move rfl) rfl rfl ?_
  refine RL.ev (.move rfl) rfl rfl ?_
  refine RL.ev (.len sl22 rfl) rfl rfl ?_
  refine RL.ev (.move rfl) rfl rfl ?_
  refine RL.ev (.as (.bin rfl rfl rfl) (wi64 (y := (l.length : Int) - k) (by rfl) (by omega))) rfl rfl ?_
  refine RL.ev (.as (v' := .bool true) (.bin rfl rfl rfl) (congrArg Value.bool (decide_eq_true (by omega)))) rfl rfl ?_
  refine RL.ev (.pick_t rfl rfl) rfl rfl ?_
  refine RL.ev (.assign rfl) rfl rfl ?_
  refine RL.nil (RC.back ?_)
  refine RC.done (rs := [.tmp 8]) (vs := [_]) rfl rfl ⟨rfl, trivial⟩ ?_
  -- end 1
  exact ⟨rfl, S⟩
end Go.Proofs.Ytefakjhfcgjhgaa
