/-
  The statement DequeJoins.
-/
import Derived.Test.YtefakjhfcgjhgaaDequeOlder
set_option linter.unusedVariables false
set_option linter.unusedSimpArgs false
namespace Go.Proofs.Ytefakjhfcgjhgaa
open Go Go.XL

theorem con_good {A B : Ar} {a b r' e : Int} {V U P Q : List Int} (h : ConP A a b B r' e) (hA : AOk A) (hV : IsR A a V P) (hU : IsR A b U Q) (hd : ∀ p ∈ P, ¬ p ∈ Q) (hl : V.length + U.length ≤ 200) (hf : V.length + U.length ≤ A.free.length) :
    e = 0 ∧ Ext A B ∧ AOk B ∧ A.free.length ≤ B.free.length + (V.length + U.length) ∧ ∃ M, IsR B r' (V ++ U) M := by
  rcases h.2.2 V U P Q (row_of hA hV (by omega)) (row_of hA hU (by omega)) hV hU with h | h | h
  · rcases h.1 with h | h
    · obtain ⟨p, h1, h2⟩ := h; exact absurd h2 (hd p h1)
    · omega
  · omega
  · exact h.2.2
theorem len0_ref {A : Ar} {r : Int} {P : List Int} (h : IsR A r [] P) : r = 0 := Classical.byContradiction fun e => by have := h.pos e; simp at this
set_option maxHeartbeats 4000000 in
theorem law_DequeJoins (w : World) (l0 : List Int) (pa : Option Addr) (pc : Nat) (hlc : l0.length ≤ pc) (hcm : pc ≤ maxLen) (hs0 : Sl w pa 1 (l0.map fun x => [i6 x])) (hli0 : ∀ x ∈ l0, I64 x) (m0 : List Int) (qa : Option Addr) (qc : Nat) (hmc : m0.length ≤ qc) (hqm : qc ≤ maxLen) (ht0 : Sl w qa 1 (m0.map fun x => [i6 x])) (hmi0 : ∀ x ∈ m0, I64 x) (p : Int) (wp : (Lit.int .i64 p).wf = true) :
    FC Try.prog 5 [.slice pa l0.length pc, .slice qa m0.length qc, .int .i64 p] w (Val (.bool true) w) := by
  have hp : -9223372036854775808 ≤ p ∧ p ≤ 9223372036854775807 := wfI wp
  have hll : l0.length ≤ 9223372036854775807 := Nat.le_trans hlc (Nat.le_trans hcm (by decide))
  have hmm : m0.length ≤ 9223372036854775807 := Nat.le_trans hmc (Nat.le_trans hqm (by decide))
  obtain ⟨l, hl⟩ : ∃ l, l = l0.take 30 := ⟨_, rfl⟩
  obtain ⟨m, hm⟩ : ∃ m, m = m0.take 30 := ⟨_, rfl⟩
  have hl30 : l.length ≤ 30 := by rw [hl, List.length_take]; omega
  have hm30 : m.length ≤ 30 := by rw [hm, List.length_take]; omega
  have hlp : l.length ≤ pc := by rw [hl, List.length_take]; omega
  have hmq : m.length ≤ qc := by rw [hm, List.length_take]; omega
  have hs : Sl w pa 1 (l.map fun x => [i6 x]) := by rw [hl, List.map_take]; exact hs0.take 30
  have ht : Sl w qa 1 (m.map fun x => [i6 x]) := by rw [hm, List.map_take]; exact ht0.take 30
  have hli : ∀ x ∈ l, I64 x := fun x hx => hli0 x (List.mem_of_mem_take (hl ▸ hx))
  have hmi : ∀ x ∈ m, I64 x := fun x hx => hmi0 x (List.mem_of_mem_take (hm ▸ hx))
  obtain ⟨r1, hr1⟩ : ∃ r : Int, r = if l.length = 0 then 0 else 1 := ⟨_, rfl⟩
  have hu1 : U64 r1 := hr1 ▸ one_u l
  have hB := build2_ok (size := 512) (l := l) (m := m) (by omega) (by decide) (by decide)
  obtain ⟨P1, Q1, hR1, hR2, hd⟩ := hB.rows
  rw [← hr1] at hR1
  have hBf := hB.free
  have hBo := hB.ok
  have hBu := hB.u
  obtain ⟨A1, hAe⟩ : ∃ A, build2A 512 l m = A := ⟨_, rfl⟩
  obtain ⟨r2, hr2⟩ : ∃ r, (lay2 512 l m).2 = r := ⟨_, rfl⟩
  rw [hAe] at hR1 hR2 hBf hBo
  rw [hr2] at hR2 hBu
  have hlml : (l ++ m).length = l.length + m.length := List.length_append
  refine FC.intro Try.func5 rfl Try.ntmps5 rfl ?_
  have S := Sub.refl w
  refine RC.seq ?_
  refine RC.region rfl ?_
  refine RL.ev (.assign rfl) rfl rfl ?_
  refine RL.nil (RC.back ?_)
  refine RC.seq ?_
  refine RC.draw rfl mxo (by kernel_rfl) ?_
  refine RQ.ev (.move rfl) rfl rfl ?_
  refine RQ.ev (.move rfl) rfl rfl ?_
  refine RQ.ev (.len sl22 rfl) rfl rfl ?_
  refine RQ.ev (.min2 rfl rfl) rfl rfl ?_
  refine RQ.ev (.as (v' := .slice pa l.length pc) (.sliceHi sl22 rfl rfl (by split <;> omega)) (by rw [hl, ← min_len]; rfl)) rfl rfl ?_
  refine RQ.ev (.move rfl) rfl rfl ?_
  refine RQ.ev (.move rfl) rfl rfl ?_
  refine RQ.ev (.len sl22 rfl) rfl rfl ?_
  refine RQ.ev (.min2 rfl rfl) rfl rfl ?_
  refine RQ.ev (.as (v' := .slice qa m.length qc) (.sliceHi sl22 rfl rfl (by split <;> omega)) (by rw [hm, ← min_len]; rfl)) rfl rfl ?_
  refine RQ.ev (.assign rfl) rfl rfl ?_
  refine RQ.ev (.assign rfl) rfl rfl ?_
  refine RQ.nil (fun w1 s2 => RC.back ?_)
  have S := S.trans s2
  refine RC.seq ?_
  refine RC.region rfl ?_
  refine RL.ev (.move rfl) rfl rfl ?_
  refine RL.ev (.move rfl) rfl rfl ?_
  refine RL.call rfl ok10 ((hr2 ▸ hAe ▸ c_build11 512 l m pa qa pc qc l.length m.length rfl rfl hlp hmq hli hmi (by omega) (by decide) (by decide) w1 (hs.sub S) (ht.sub S))) rfl rfl ?_
  rintro _ w3 ⟨na1, fa1, nc1, fc1, rfl, hn1, hf1, hi1, s4⟩
  have hA1 := (hi1 (fun _ => False) (fun _ h => h.elim)).now
  have S := S.trans s4
  obtain ⟨W1, S1, hA1⟩ : ∃ W, Sub W w3 ∧ ArR W na1 fa1 A1 := ⟨_, Sub.refl _, hA1⟩
  have hG1 := Ft.of_sub fun u s => hA1.sub s
  refine RL.ev (.move rfl) rfl rfl ?_
  refine RL.ev (.extract rfl rfl) rfl rfl ?_
  refine RL.ev (.extract rfl rfl) rfl rfl ?_
  refine RL.alloc ze26 rfl rfl (fun b_7 w_7 e_7 z_7 hb_7 s_7 => ?_)
  have ge_7 := S.le e_7
  have S := S.trans s_7
  have geS1_7 := S1.le e_7
  have S1 := S1.trans s_7
  refine RL.store sh26 rfl rfl rfl hb_7 (by exact Nat.le_of_ble_eq_true rfl) (by rfl) rfl (fun w5 z5 hb_7 a5 => ?_)
  have S := S.upd a5 ge_7
  have S1 := S1.upd a5 geS1_7
  have hb_7 : Has w5 b_7 ([.slice na1 A1.nodes.length nc1, .slice fa1 A1.free.length fc1]) _ := hb_7.now (by kernel_rfl)
  refine RL.ev (.assign rfl) rfl rfl ?_
  refine RL.nil (RC.back ?_)
  refine RC.seq ?_
  refine RC.region rfl ?_
  refine RL.ev (.move rfl) rfl rfl ?_
  refine RL.ev (.len sl22 rfl) rfl rfl ?_
  refine RL.ev (.min2 rfl rfl) rfl rfl ?_
  refine RL.ev (.as (v' := .int .u64 r1) (.conv i3 i28 rfl) (by rw [hr1, ← one_ref])) rfl rfl ?_
  refine RL.ev (.assign rfl) rfl rfl ?_
  refine RL.nil (RC.back ?_)
  refine RC.seq ?_
  refine RC.region rfl ?_
  refine RL.ev (.loadR ([.slice na1 A1.nodes.length nc1, .slice fa1 A1.free.length fc1]) sh26 rfl hb_7.row rfl) rfl rfl ?_
  refine RL.ev (.move rfl) rfl rfl ?_
  refine RL.ev (.move rfl) rfl rfl ?_
  refine RL.call rfl ok17 (c_dcon A1 na1 fa1 nc1 fc1 hn1 hf1 r1 r2 hu1 hBu _ w5 (hG1.sub S1)) rfl rfl ?_
  rintro _ w6 ⟨s7, na2, fa2, nc2, fc2, A2, r3, e2, M2, rfl, hU2, hn2, hf2, hA2, _, hp2⟩
  have S := S.trans s7
  have S1 := S1.trans s7
  have hb_7 := hb_7.sub s7
  obtain ⟨rfl, hE2, hok2, hF2, P2, hR3⟩ := con_good hp2 hBo hR1 hR2 hd (by omega) (by omega)
  obtain ⟨W2, S2, hA2⟩ : ∃ W, Sub W w6 ∧ ArR W na2 fa2 A2 := ⟨_, Sub.refl _, hA2.now⟩
  refine RL.ev (.move rfl) rfl rfl ?_
  refine RL.ev (.extract rfl rfl) rfl rfl ?_
  refine RL.ev (.extract rfl rfl) rfl rfl ?_
  refine RL.ev (.extract rfl rfl) rfl rfl ?_
  refine RL.alloc ze26 rfl rfl (fun b_10 w_10 e_10 z_10 hb_10 s_10 => ?_)
  have ge_10 := S.le e_10
  have n_7__10 := hb_7.ne e_10
  have S := S.trans s_10
  have geS1_10 := S1.le e_10
  have S1 := S1.trans s_10
  have hb_7 := hb_7.sub s_10
  have geS2_10 := S2.le e_10
  have S2 := S2.trans s_10
  refine RL.store sh26 rfl rfl rfl hb_10 (by exact Nat.le_of_ble_eq_true rfl) (by rfl) rfl (fun w8 z8 hb_10 a8 => ?_)
  have S := S.upd a8 ge_10
  have S1 := S1.upd a8 geS1_10
  have hb_7 := hb_7.upd a8 n_7__10
  have S2 := S2.upd a8 geS2_10
  have hb_10 : Has w8 b_10 ([.slice na2 A2.nodes.length nc2, .slice fa2 A2.free.length fc2]) _ := hb_10.now (by kernel_rfl)
  refine RL.ev (.assign rfl) rfl rfl ?_
  refine RL.ev (.assign rfl) rfl rfl ?_
  refine RL.nil (RC.back ?_)
  refine RC.seq ?_
  refine RC.seq ?_
  refine RC.region rfl ?_
  refine RL.ev (.move rfl) rfl rfl ?_
  refine RL.ev (.as (v' := .bool false) (.bin rfl rfl rfl) (congrArg Value.bool (decide_eq_false (fun h => h rfl)))) rfl rfl ?_
  refine RL.nil (RC.back ?_)
  refine RC.cond_f rfl ?_
  refine RC.skip (RC.back ?_)
  refine RC.seq ?_
  refine RC.region rfl ?_
  refine RL.ev (.move rfl) rfl rfl ?_
  refine RL.ev (.as (v' := .int .i64 (l.length : Int)) (.len sl22 rfl) (by rfl)) rfl rfl ?_
  refine RL.ev (.move rfl) rfl rfl ?_
  refine RL.ev (.len sl22 rfl) rfl rfl ?_
  refine RL.ev (.as (.bin rfl rfl rfl) (wi64 (y := ((l.length + m.length : Nat) : Int)) (by omega) (by omega))) rfl rfl ?_
  refine RL.ev (.assign rfl) rfl rfl ?_
  refine RL.nil (RC.back ?_)
  refine RC.seq ?_
  refine RC.seq ?_
  refine RC.region rfl ?_
  refine RL.ev (.move rfl) rfl rfl ?_
  refine RL.ev (.bin rfl rfl rfl) rfl rfl ?_
  refine RL.nil (RC.back ?_)
  refine RC.cond_dec rfl (fun h9 => ?_) (fun h9 => ?_)
  ·
    have hn0 : l.length + m.length = 0 := (by omega)
    obtain rfl := List.eq_nil_of_length_eq_zero (show l.length = 0 by omega)
    obtain rfl := List.eq_nil_of_length_eq_zero (show m.length = 0 by omega)
    have hr3 := len0_ref hR3
    refine RC.seq ?_
    refine RC.region rfl ?_
    refine RL.call rfl ok13 (c_alive11 w8) rfl rfl ?_
    rintro _ w10 ⟨rfl, s11⟩
    have S := S.trans s11
    have S1 := S1.trans s11
    have hb_7 := hb_7.sub s11
    have S2 := S2.trans s11
    have hb_10 := hb_10.sub s11
    refine RL.ev (.move rfl) rfl rfl ?_
    refine RL.ev (.move rfl) rfl rfl ?_
    refine RL.ev (.as (v' := .bool true) (.bin rfl rfl rfl) (congrArg Value.bool (decide_eq_true (hr3)))) rfl rfl ?_
    refine RL.ev (.pick_t rfl rfl) rfl rfl ?_
    refine RL.ev (.assign rfl) rfl rfl ?_
    refine RL.nil (RC.back ?_)
    refine RC.done (rs := [.tmp 6]) (vs := [_]) rfl rfl ⟨rfl, trivial⟩ ?_
    -- end 1
    exact ⟨rfl, S⟩
  ·
    have hn0 : 0 < l.length + m.length := (by omega)
    have nmp := norm_mod p ((l.length + m.length : Nat) : Int) (by omega)
    obtain ⟨k, hk⟩ := Int.eq_ofNat_of_zero_le (Int.emod_nonneg p (show ((l.length + m.length : Nat) : Int) ≠ 0 by omega))
    have hkn : k < l.length + m.length := (by have := Int.emod_lt_of_pos p (show 0 < ((l.length + m.length : Nat) : Int) by omega); omega)
    refine RC.skip (RC.back ?_)
    refine RC.seq ?_
    refine RC.region rfl ?_
    refine RL.ev (.move rfl) rfl rfl ?_
    refine RL.ev (.move rfl) rfl rfl ?_
    refine RL.ev (.rem rfl rfl (by omega)) rfl rfl ?_
    refine RL.ev (.move rfl) rfl rfl ?_
    refine RL.ev (.as (.bin rfl rfl rfl) (wi64 (y := p.tmod ((l.length + m.length : Nat) : Int) + ((l.length + m.length : Nat) : Int)) (by rfl) (by omega))) rfl rfl ?_
    refine RL.ev (.move rfl) rfl rfl ?_
    refine RL.ev (.as (v' := .int .i64 (k : Int)) (.rem rfl rfl (by omega)) (by rw [nmp.2.2, hk])) rfl rfl ?_
    refine RL.ev (.assign rfl) rfl rfl ?_
    refine RL.nil (RC.back ?_)
    refine RC.seq ?_
    refine RC.region rfl ?_
    refine RL.ev (.loadR ([.slice na2 A2.nodes.length nc2, .slice fa2 A2.free.length fc2]) sh26 rfl hb_10.row rfl) rfl rfl ?_
    refine RL.ev (.move rfl) rfl rfl ?_
    refine RL.ev (.move rfl) rfl rfl ?_
    refine RL.call rfl ok18 (c_dAt A2 na2 fa2 nc2 fc2 hn2 hf2 r3 (k : Int) hU2 (by unfold I64; omega) w8 (hA2.sub S2)) rfl rfl ?_
    rintro _ w12 ⟨s13, z, e3, rfl, _, hz⟩
    have S := S.trans s13
    have S1 := S1.trans s13
    have hb_7 := hb_7.sub s13
    have S2 := S2.trans s13
    have hb_10 := hb_10.sub s13
    obtain ⟨_, _, hz1, rfl⟩ := (hz _ _ (row_of hok2 hR3 (by omega)) hR3).resolve_left (fun h => h.1 ⟨by omega, by omega⟩)
    rw [Int.toNat_natCast] at hz1
    refine RL.ev (.move rfl) rfl rfl ?_
    refine RL.ev (.extract rfl rfl) rfl rfl ?_
    refine RL.ev (.extract rfl rfl) rfl rfl ?_
    refine RL.ev (.assign rfl) rfl rfl ?_
    refine RL.ev (.assign rfl) rfl rfl ?_
    refine RL.nil (RC.back ?_)
    refine RC.seq ?_
    refine RC.seq ?_
    refine RC.region rfl ?_
    refine RL.ev (.move rfl) rfl rfl ?_
    refine RL.ev (.move rfl) rfl rfl ?_
    refine RL.ev (.len sl22 rfl) rfl rfl ?_
    refine RL.ev (.bin rfl rfl rfl) rfl rfl ?_
    refine RL.nil (RC.back ?_)
    refine RC.cond_dec rfl (fun h14 => ?_) (fun h14 => ?_)
    ·
      have hkl : k < l.length := (by omega)
      obtain ⟨y, hy⟩ := getSome (l := l) (i := k) hkl
      rw [List.getD_eq_getElem?_getD, List.getElem?_append_left hkl, hy] at hz1
      refine RC.seq ?_
      refine RC.region rfl ?_
      refine RL.call rfl ok13 (c_alive11 w12) rfl rfl ?_
      rintro _ w15 ⟨rfl, s16⟩
      have S := S.trans s16
      have S1 := S1.trans s16
      have hb_7 := hb_7.sub s16
      have S2 := S2.trans s16
      have hb_10 := hb_10.sub s16
      refine RL.ev (.move rfl) rfl rfl ?_
      refine RL.ev (.move rfl) rfl rfl ?_
      refine RL.ev (.as (v' := .bool true) (.bin rfl rfl rfl) (congrArg Value.bool (decide_eq_true (rfl)))) rfl rfl ?_
      refine RL.ev (.pick_t rfl rfl) rfl rfl ?_
      refine RL.ev (.move rfl) rfl rfl ?_
      refine RL.ev (.move rfl) rfl rfl ?_
      refine RL.ev (.move rfl) rfl rfl ?_
      refine RL.ev (.move rfl) rfl rfl ?_
      refine RL.ev (.indexS sl22 rfl rfl (by omega) (hs.is (i := 0) (by rw [List.length_map]; omega))) rfl rfl ?_
      refine RL.ev (.load1 sh2 rfl ((hs.sub S).one (enc := i6) (i := k) hy)) rfl rfl ?_
      refine RL.ev (.as (v' := .bool true) (.bin rfl rfl rfl) (congrArg Value.bool (decide_eq_true (hz1)))) rfl rfl ?_
      refine RL.ev (.pick_t rfl rfl) rfl rfl ?_
      refine RL.ev (.assign rfl) rfl rfl ?_
      refine RL.nil (RC.back ?_)
      refine RC.done (rs := [.tmp 6]) (vs := [_]) rfl rfl ⟨rfl, trivial⟩ ?_
      -- end 2
      exact ⟨rfl, S⟩
    ·
      have hkl : l.length ≤ k := (by omega)
      obtain ⟨y, hy⟩ := getSome (l := m) (i := k - l.length) (by omega)
      rw [List.getD_eq_getElem?_getD, List.getElem?_append_right hkl, hy] at hz1
      refine RC.skip (RC.back ?_)
      refine RC.seq ?_
      refine RC.region rfl ?_
      refine RL.call rfl ok13 (c_alive11 w12) rfl rfl ?_
      rintro _ w17 ⟨rfl, s18⟩
      have S := S.trans s18
      have S1 := S1.trans s18
      have hb_7 := hb_7.sub s18
      have S2 := S2.trans s18
      have hb_10 := hb_10.sub s18
      refine RL.ev (.move rfl) rfl rfl ?_
      refine RL.ev (.move rfl) rfl rfl ?_
      refine RL.ev (.as (v' := .bool true) (.bin rfl rfl rfl) (congrArg Value.bool (decide_eq_true (rfl)))) rfl rfl ?_
      refine RL.ev (.pick_t rfl rfl) rfl rfl ?_
      refine RL.ev (.move rfl) rfl rfl ?_
      refine RL.ev (.move rfl) rfl rfl ?_
      refine RL.ev (.move rfl) rfl rfl ?_
      refine RL.ev (.move rfl) rfl rfl ?_
      refine RL.ev (.move rfl) rfl rfl ?_
      refine RL.ev (.len sl22 rfl) rfl rfl ?_
      refine RL.ev (.as (.bin rfl rfl rfl) (wi64 (y := ((k - l.length : Nat) : Int)) (by omega) (by omega))) rfl rfl ?_
      refine RL.ev (.indexS sl22 rfl rfl (by omega) (ht.is (i := 0) (by rw [List.length_map]; omega))) rfl rfl ?_
      refine RL.ev (.load1 sh2 rfl ((ht.sub S).one (enc := i6) (i := k - l.length) hy)) rfl rfl ?_
      refine RL.ev (.as (v' := .bool true) (.bin rfl rfl rfl) (congrArg Value.bool (decide_eq_true (hz1)))) rfl rfl ?_
      refine RL.ev (.pick_t rfl rfl) rfl rfl ?_
      refine RL.ev (.assign rfl) rfl rfl ?_
      refine RL.nil (RC.back ?_)
      refine RC.done (rs := [.tmp 6]) (vs := [_]) rfl rfl ⟨rfl, trivial⟩ ?_
      -- end 3
      exact ⟨rfl, S⟩
end Go.Proofs.Ytefakjhfcgjhgaa
