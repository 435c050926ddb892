/-
  The statement SpanParts.
-/
import Derived.Test.YtdmaogopibljoaaSpanLaws
set_option linter.unusedVariables false
set_option linter.unusedSimpArgs false
namespace Go.Proofs.Ytdmaogopibljoaa
open Go Go.XL

def mod100 (x : Int) : Int := x.tmod 100
def lo3 (a b c : Int) : Int := if c < (if b < a then b else a) then c else (if b < a then b else a)
def hi3 (a b c : Int) : Int := if (if a < b then b else a) < c then c else (if a < b then b else a)
def mid3 (a b c : Int) : Int := if (if b < a then b else a) < (if c < (if a < b then b else a) then c else (if a < b then b else a)) then (if c < (if a < b then b else a) then c else (if a < b then b else a)) else (if b < a then b else a)
theorem sort3_ok {a b c : Int} (ha : -200 < a ∧ a < 200) (hb : -200 < b ∧ b < 200) (hc : -200 < c ∧ c < 200) : lo3 a b c ≤ mid3 a b c ∧ mid3 a b c ≤ hi3 a b c ∧ -200 < lo3 a b c ∧ hi3 a b c < 200 := by
  unfold lo3 mid3 hi3
  by_cases h1 : b < a
  · rw [if_pos h1, if_neg (show ¬ a < b by omega)]
    by_cases h2 : c < b
    · rw [if_pos h2, if_pos (show c < a by omega), if_neg (show ¬ b < c by omega), if_neg (show ¬ a < c by omega)]; omega
    · rw [if_neg h2]
      by_cases h3 : c < a
      · rw [if_pos h3, if_neg (show ¬ a < c by omega)]; split <;> omega
      · rw [if_neg h3, if_pos h1]; split <;> omega
  · rw [if_neg h1]
    by_cases h4 : a < b
    · rw [if_pos h4]
      by_cases h2 : c < a
      · rw [if_pos h2, if_pos (show c < b by omega), if_neg (show ¬ a < c by omega), if_neg (show ¬ b < c by omega)]; omega
      · rw [if_neg h2]
        by_cases h3 : c < b
        · rw [if_pos h3, if_neg (show ¬ b < c by omega)]; split <;> omega
        · rw [if_neg h3, if_pos h4]; split <;> omega
    · rw [if_neg h4]
      by_cases h2 : c < a
      · rw [if_pos h2, if_neg (show ¬ a < c by omega)]; omega
      · rw [if_neg h2, if_neg (show ¬ a < a by omega)]; split <;> omega
set_option maxHeartbeats 1000000 in
theorem law_SpanParts (w : World) (l : List Int) (pa : Option Addr) (pc : Nat) (hlc : l.length ≤ pc) (hcm : pc ≤ maxLen) (hs : Sl w pa 1 (l.map fun x => [i6 x])) (hli : ∀ x ∈ l, I64 x) (a : Int) (wa : (Lit.int .i64 a).wf = true) (b : Int) (wb : (Lit.int .i64 b).wf = true) (c : Int) (wc : (Lit.int .i64 c).wf = true) :
    FC Try.prog 3 [.slice pa l.length pc, .int .i64 a, .int .i64 b, .int .i64 c] w (Val (.bool true) w) := by
  have hll : l.length ≤ 9223372036854775807 := Nat.le_trans hlc (Nat.le_trans hcm (by decide))
  have ha := wfI wa
  have hb := wfI wb
  have hc := wfI wc
  obtain ⟨p1, hp1, hr1⟩ : ∃ p, p = a.tmod 200 ∧ -200 < p ∧ p < 200 := ⟨_, rfl, by have := norm_mod a 200 (by decide); omega, by have := norm_mod a 200 (by decide); omega⟩
  obtain ⟨p2, hp2, hr2⟩ : ∃ p, p = b.tmod 200 ∧ -200 < p ∧ p < 200 := ⟨_, rfl, by have := norm_mod b 200 (by decide); omega, by have := norm_mod b 200 (by decide); omega⟩
  obtain ⟨p3, hp3, hr3⟩ : ∃ p, p = c.tmod 200 ∧ -200 < p ∧ p < 200 := ⟨_, rfl, by have := norm_mod c 200 (by decide); omega, by have := norm_mod c 200 (by decide); omega⟩
  refine FC.intro Try.func3 rfl Try.ntmps3 rfl ?_
  have S := Sub.refl w
  refine RC.seq ?_
  refine RC.region rfl ?_
  refine RL.ev (.assign rfl) rfl rfl ?_
  refine RL.nil (RC.back ?_)
  refine RC.seq ?_
  refine RC.region rfl ?_
  refine RL.ev (.assign rfl) rfl rfl ?_
  refine RL.nil (RC.back ?_)
  refine RC.seq ?_
  refine RC.seq ?_
  refine RC.region rfl ?_
  refine RL.ev (.move rfl) rfl rfl ?_
  refine RL.ev (.len sl22 rfl) rfl rfl ?_
  refine RL.ev (.move rfl) rfl rfl ?_
  refine RL.nil (RC.back ?_)
  refine RC.block ?_
  refine RC.loop (α := Nat × Option Addr × Nat × Nat) (fun x => [(1, .int .i64 a), (2, .int .i64 b), (3, .int .i64 c), (9, .slice x.2.1 x.2.2.1 x.2.2.2), (20, .slice pa l.length pc), (21, .int .i64 (l.length : Int)), (22, .int .i64 (x.1 : Int))]) (fun x w1 => (x.1 ≤ l.length ∧ x.2.2.1 = (rowN mod100 idM 30 l x.1).length ∧ (rowN mod100 idM 30 l x.1).length ≤ x.2.2.2) ∧ Sl w1 x.2.1 2 ((rowN mod100 idM 30 l x.1).map It.cells) ∧ Sub w w1) (fun x => l.length - x.1) (0, none, 0, 0) (keep_of (by repeat (first | exact trivial | refine And.intro rfl ?_))) (⟨⟨Nat.zero_le _, rfl, Nat.zero_le _⟩, Sl.nil _ _ _, S⟩) (fun x w1 hJ => ?_)
  obtain ⟨i, ra, rm, rc⟩ := x; obtain ⟨⟨hi, hm, hc⟩, hr, S⟩ := hJ; simp only [] at hi hm hc hr; have hrl := rowN_len mod100 idM 30 l i
  refine RC.seq ?_
  refine RC.region rfl ?_
  refine RL.ev (.bin rfl rfl rfl) rfl rfl ?_
  refine RL.nil (RC.back ?_)
  refine RC.seq ?_
  refine RC.cond_dec rfl (fun h2 => ?_) (fun h2 => ?_)
  ·
    obtain ⟨x, hx⟩ := getSome (l := l) (i := i) (by omega)
    have hxi : -9223372036854775808 ≤ x ∧ x ≤ 9223372036854775807 := hli x (List.mem_of_getElem? hx)
    have nmx := norm_mod x 100 (by decide)
    refine RC.skip (RC.back ?_)
    refine RC.seq ?_
    refine RC.block ?_
    refine RC.seq ?_
    refine RC.region rfl ?_
    refine RL.ev (.move rfl) rfl rfl ?_
    refine RL.ev (.indexS sl22 rfl rfl (by omega) (hs.is (i := 0) (by simp only [List.length_map]; omega))) rfl rfl ?_
    refine RL.ev (.load1 sh2 rfl ((hs.sub S).one (enc := i6) (i := i) hx)) rfl rfl ?_
    refine RL.ev (.assign rfl) rfl rfl ?_
    refine RL.ev (.assign rfl) rfl rfl ?_
    refine RL.nil (RC.back ?_)
    refine RC.seq ?_
    refine RC.region rfl ?_
    refine RL.ev (.move rfl) rfl rfl ?_
    refine RL.ev (.bin rfl rfl rfl) rfl rfl ?_
    refine RL.nil (RC.back ?_)
    refine RC.cond_dec rfl (fun h3 => ?_) (fun h3 => ?_)
    ·
      have hlt : i < 30 := (by omega)
      refine RC.region rfl ?_
      refine RL.ev (.move rfl) rfl rfl ?_
      refine RL.ev (.move rfl) rfl rfl ?_
      refine RL.ev (.rem rfl rfl (by decide)) rfl rfl ?_
      refine RL.ev (.move rfl) rfl rfl ?_
      refine RL.call rfl ok7 (c_refPut (rowN mod100 idM 30 l i) ra rc rm hm (x.tmod 100) (i : Int) w1 hr (by omega)) rfl rfl ?_
      rintro vr w4 ⟨a1, c1, hvr, o1, s5⟩
      have S := S.trans s5
      rw [← show rowN mod100 idM 30 l (i + 1) = putR (rowN mod100 idM 30 l i) (x.tmod 100) (i : Int) from rowN_put hx hlt] at hvr o1
      subst hvr
      have hc1 : (rowN mod100 idM 30 l (i + 1)).length ≤ c1 := (by obtain ⟨_, c', e, h⟩ := o1.form; cases e; rw [List.length_map] at h; exact h)
      refine RL.ev (.assign rfl) rfl rfl ?_
      refine RL.nil (RC.back ?_)
      refine RC.region rfl ?_
      refine RL.ev (.as (.bin rfl rfl rfl) (wi64 (y := ((i + 1 : Nat) : Int)) (by omega) (by omega))) rfl rfl ?_
      refine RL.ev (.move rfl) rfl rfl ?_
      exact RL.nil (fun a ka => ⟨(i + 1, a1, _, c1), ⟨⟨by omega, List.length_map _, hc1⟩, o1.sl.1, S⟩, by omega, ka.keep (keep_of (by repeat (first | exact trivial | refine And.intro rfl ?_)))⟩)
    ·
      have hge : ¬ i < 30 := (by omega)
      rw [← rowN_stay hge] at hm hc hr
      refine RC.skip (RC.back ?_)
      refine RC.region rfl ?_
      refine RL.ev (.as (.bin rfl rfl rfl) (wi64 (y := ((i + 1 : Nat) : Int)) (by omega) (by omega))) rfl rfl ?_
      refine RL.ev (.move rfl) rfl rfl ?_
      exact RL.nil (fun a ka => ⟨(i + 1, ra, rm, rc), ⟨⟨by omega, hm, hc⟩, hr, S⟩, by omega, ka.keep (keep_of (by repeat (first | exact trivial | refine And.intro rfl ?_)))⟩)
  ·
    obtain rfl : i = l.length := (by omega)
    have hRs := rowN_srt mod100 idM 30 l l.length
    have hRok := rowN_all (f := mod100) (g := idM) (most := 30) (l := l) (P := It.ok) (fun x hx i hi => ⟨by have := norm_mod x 100 (by decide); unfold I64; show _ ≤ x.tmod 100 ∧ x.tmod 100 ≤ _; omega, by unfold I64; show _ ≤ (i : Int) ∧ (i : Int) ≤ _; omega⟩) l.length (Nat.le_refl _)
    obtain ⟨R, hR⟩ : ∃ R, rowN mod100 idM 30 l l.length = R := ⟨_, rfl⟩
    rw [hR] at hm hc hr hrl hRs hRok
    have hR30 := hrl.1
    subst hm
    refine RC.exit rfl (RC.back ?_)
    refine RC.seq ?_
    refine RC.region rfl ?_
    refine RL.ev (.move rfl) rfl rfl ?_
    refine RL.ev (.as (v' := .int .i64 p1) (.rem rfl rfl (by decide)) (by rw [hp1])) rfl rfl ?_
    refine RL.ev (.move rfl) rfl rfl ?_
    refine RL.ev (.as (v' := .int .i64 p2) (.rem rfl rfl (by decide)) (by rw [hp2])) rfl rfl ?_
    refine RL.ev (.move rfl) rfl rfl ?_
    refine RL.ev (.as (v' := .int .i64 p3) (.rem rfl rfl (by decide)) (by rw [hp3])) rfl rfl ?_
    refine RL.ev (.assign rfl) rfl rfl ?_
    refine RL.ev (.assign rfl) rfl rfl ?_
    refine RL.ev (.assign rfl) rfl rfl ?_
    refine RL.nil (RC.back ?_)
    refine RC.seq ?_
    refine RC.region rfl ?_
    refine RL.ev (.move rfl) rfl rfl ?_
    refine RL.ev (.len sl23 rfl) rfl rfl ?_
    refine RL.ev (.as (.bin rfl rfl rfl) (wi64 (y := ((R.length + 1 : Nat) : Int)) (by show (R.length : Int) + 1 = _; omega) (by omega))) rfl rfl ?_
    refine RL.ev (.move rfl) rfl rfl ?_
    refine RL.call rfl ok8 (c_build (R.length + 1) R ra rc R.length rfl hc hRs hRok (by omega) (by omega) (by omega) w1 hr) rfl rfl ?_
    rintro _ w6 ⟨na1, fa1, nc1, fc1, rfl, hn1, hf1, hi1, s7⟩
    have hA1 := (hi1 (fun _ => False) (fun _ h => h.elim)).now
    have S := S.trans s7
    obtain ⟨A1, hAe1⟩ : ∃ A, buildA (R.length + 1) R = A := ⟨_, rfl⟩
    obtain ⟨r1, hre1⟩ : ∃ r, buildR (R.length + 1) R = r := ⟨_, rfl⟩
    have hB1 := build_ok (size := (R.length + 1)) hRs (by omega) (by omega) (by omega)
    have hM1 := build_map (size := (R.length + 1)) hRs (by omega) (by omega) (by omega) (by omega)
    have hT1 := hB1.isT
    have hU1 := hB1.u
    rw [hAe1, hre1] at hT1 hM1
    rw [hre1] at hU1
    rw [hAe1] at hA1
    rw [hAe1, hre1]
    obtain ⟨W1, S1, hA1⟩ : ∃ W, Sub W w6 ∧ ArR W na1 fa1 A1 := ⟨_, Sub.refl _, hA1⟩
    refine RL.ev (.move rfl) rfl rfl ?_
    refine RL.ev (.extract rfl rfl) rfl rfl ?_
    refine RL.ev (.extract rfl rfl) rfl rfl ?_
    refine RL.alloc ze28 rfl rfl (fun b_12 w_12 e_12 z_12 hb_12 s_12 => ?_)
    have ge_12 := S.le e_12
    have S := S.trans s_12
    have geS1_12 := S1.le e_12
    have S1 := S1.trans s_12
    refine RL.store sh28 rfl rfl rfl hb_12 (by exact Nat.le_of_ble_eq_true rfl) (by rfl) rfl (fun w8 z8 hb_12 a8 => ?_)
    have S := S.upd a8 ge_12
    have S1 := S1.upd a8 geS1_12
    have hb_12 : Has w8 b_12 ([.slice na1 A1.nodes.length nc1, .slice fa1 A1.free.length fc1]) _ := hb_12.now (by kernel_rfl)
    refine RL.ev (.assign rfl) rfl rfl ?_
    refine RL.nil (RC.back ?_)
    refine RC.cutx (α := Int × Int × Int) (fun y_ => [(1, .int .i64 y_.1), (2, .int .i64 y_.2.1), (3, .int .i64 y_.2.2), (12, .pointer (some ⟨b_12, 0, none⟩)), (13, .int .u64 r1)]) (fun y_ w9 => (y_.1 ≤ y_.2.1 ∧ y_.2.1 ≤ y_.2.2 ∧ -200 < y_.1 ∧ y_.2.2 < 200) ∧ Has w9 b_12 [.slice na1 A1.nodes.length nc1, .slice fa1 A1.free.length fc1] 28 ∧ Sub W1 w9 ∧ Sub w w9) ?_ (fun y_ w9 hJ => ?_)
    ·
      refine RC.seq ?_
      refine RC.region rfl ?_
      refine RL.ev (.move rfl) rfl rfl ?_
      refine RL.ev (.move rfl) rfl rfl ?_
      refine RL.ev (.bin rfl rfl rfl) rfl rfl ?_
      refine RL.ev (.move rfl) rfl rfl ?_
      refine RL.split 52 rfl (fun h10 => ?_) (fun h10 => ?_)
      ·
        have q1 := h10
        refine RL.off rfl rfl ?_
        refine RL.off rfl rfl ?_
        refine RL.off rfl rfl ?_
        refine RL.ev (.pick_t rfl rfl) rfl rfl ?_
        refine RL.nil (RC.back ?_)
        refine RC.cond_t rfl ?_
        refine RC.region rfl ?_
        refine RL.ev (.move rfl) rfl rfl ?_
        refine RL.ev (.move rfl) rfl rfl ?_
        refine RL.ev (.move rfl) rfl rfl ?_
        refine RL.ev (EvOp.min3 rfl rfl rfl) rfl rfl ?_
        refine RL.ev (.move rfl) rfl rfl ?_
        refine RL.ev (.move rfl) rfl rfl ?_
        refine RL.ev (.min2 rfl rfl) rfl rfl ?_
        refine RL.ev (.move rfl) rfl rfl ?_
        refine RL.ev (.move rfl) rfl rfl ?_
        refine RL.ev (.max2 rfl rfl) rfl rfl ?_
        refine RL.ev (.move rfl) rfl rfl ?_
        refine RL.ev (.min2 rfl rfl) rfl rfl ?_
        refine RL.ev (.max2 rfl rfl) rfl rfl ?_
        refine RL.ev (.move rfl) rfl rfl ?_
        refine RL.ev (.move rfl) rfl rfl ?_
        refine RL.ev (.move rfl) rfl rfl ?_
        refine RL.ev (EvOp.max3 rfl rfl rfl) rfl rfl ?_
        refine RL.ev (.assign rfl) rfl rfl ?_
        refine RL.ev (.assign rfl) rfl rfl ?_
        refine RL.ev (.assign rfl) rfl rfl ?_
        exact RL.nil (fun a ka => ⟨(lo3 p1 p2 p3, mid3 p1 p2 p3, hi3 p1 p2 p3), ⟨sort3_ok hr1 hr2 hr3, hb_12, S1, S⟩, ka.keep (keep_of (by repeat (first | exact trivial | refine And.intro rfl ?_)))⟩)
      ·
        have q1 := h10
        refine RL.ev (.move rfl) rfl rfl ?_
        refine RL.ev (.move rfl) rfl rfl ?_
        refine RL.ev (.bin rfl rfl rfl) rfl rfl ?_
        refine RL.ev (.pick_f rfl rfl) rfl rfl ?_
        refine RL.nil (RC.back ?_)
        refine RC.cond_dec rfl (fun h11 => ?_) (fun h11 => ?_)
        ·
          have q2 := h11
          refine RC.region rfl ?_
          refine RL.ev (.move rfl) rfl rfl ?_
          refine RL.ev (.move rfl) rfl rfl ?_
          refine RL.ev (.move rfl) rfl rfl ?_
          refine RL.ev (EvOp.min3 rfl rfl rfl) rfl rfl ?_
          refine RL.ev (.move rfl) rfl rfl ?_
          refine RL.ev (.move rfl) rfl rfl ?_
          refine RL.ev (.min2 rfl rfl) rfl rfl ?_
          refine RL.ev (.move rfl) rfl rfl ?_
          refine RL.ev (.move rfl) rfl rfl ?_
          refine RL.ev (.max2 rfl rfl) rfl rfl ?_
          refine RL.ev (.move rfl) rfl rfl ?_
          refine RL.ev (.min2 rfl rfl) rfl rfl ?_
          refine RL.ev (.max2 rfl rfl) rfl rfl ?_
          refine RL.ev (.move rfl) rfl rfl ?_
          refine RL.ev (.move rfl) rfl rfl ?_
          refine RL.ev (.move rfl) rfl rfl ?_
          refine RL.ev (EvOp.max3 rfl rfl rfl) rfl rfl ?_
          refine RL.ev (.assign rfl) rfl rfl ?_
          refine RL.ev (.assign rfl) rfl rfl ?_
          refine RL.ev (.assign rfl) rfl rfl ?_
          exact RL.nil (fun a ka => ⟨(lo3 p1 p2 p3, mid3 p1 p2 p3, hi3 p1 p2 p3), ⟨sort3_ok hr1 hr2 hr3, hb_12, S1, S⟩, ka.keep (keep_of (by repeat (first | exact trivial | refine And.intro rfl ?_)))⟩)
        ·
          have q2 := h11
          exact RC.skip (fun a ka => ⟨(p1, p2, p3), ⟨by show p1 ≤ p2 ∧ p2 ≤ p3 ∧ -200 < p1 ∧ p3 < 200; omega, hb_12, S1, S⟩, ka.keep (keep_of (by repeat (first | exact trivial | refine And.intro rfl ?_)))⟩)
    obtain ⟨hx, hb_12, S1, S⟩ := hJ
    obtain ⟨x1, ex1⟩ : ∃ x, x = y_.1 := ⟨_, rfl⟩
    obtain ⟨x2, ex2⟩ : ∃ x, x = y_.2.1 := ⟨_, rfl⟩
    obtain ⟨x3, ex3⟩ : ∃ x, x = y_.2.2 := ⟨_, rfl⟩
    rw [← ex1, ← ex2, ← ex3] at hx ⊢
    refine RC.seq ?_
    refine RC.region rfl ?_
    refine RL.ev (.loadR ([.slice na1 A1.nodes.length nc1, .slice fa1 A1.free.length fc1]) sh28 rfl hb_12.row rfl) rfl rfl ?_
    refine RL.ev (.move rfl) rfl rfl ?_
    refine RL.ev (.move rfl) rfl rfl ?_
    refine RL.ev (.move rfl) rfl rfl ?_
    refine RL.call rfl ok9 (c_all A1 na1 fa1 nc1 fc1 r1 hU1 x1 x2 w9 (hA1.sub S1)) rfl rfl ?_
    rintro _ w12 ⟨s13, a2, c2, rows, e5, rfl, o1, _, hx2⟩
    have S := S.trans s13
    have S1 := S1.trans s13
    have hb_12 := hb_12.sub s13
    obtain ⟨rfl, rfl⟩ := hx2 R hM1 hT1
    refine RL.ev (.move rfl) rfl rfl ?_
    refine RL.ev (.extract rfl rfl) rfl rfl ?_
    refine RL.ev (.extract rfl rfl) rfl rfl ?_
    refine RL.ev (.assign rfl) rfl rfl ?_
    refine RL.ev (.assign rfl) rfl rfl ?_
    refine RL.nil (RC.back ?_)
    refine RC.seq ?_
    refine RC.region rfl ?_
    refine RL.ev (.loadR ([.slice na1 A1.nodes.length nc1, .slice fa1 A1.free.length fc1]) sh28 rfl hb_12.row rfl) rfl rfl ?_
    refine RL.ev (.move rfl) rfl rfl ?_
    refine RL.ev (.move rfl) rfl rfl ?_
    refine RL.ev (.as (.bin rfl rfl rfl) (wi64 (y := x2 + 1) (by rfl) (by omega))) rfl rfl ?_
    refine RL.ev (.move rfl) rfl rfl ?_
    refine RL.call rfl ok9 (c_all A1 na1 fa1 nc1 fc1 r1 hU1 (x2 + 1) x3 w12 (hA1.sub S1)) rfl rfl ?_
    rintro _ w14 ⟨s15, a3, c3, rows, e5, rfl, o2, _, hx2⟩
    have S := S.trans s15
    have S1 := S1.trans s15
    have hb_12 := hb_12.sub s15
    have o1 := o1.sub s15
    obtain ⟨rfl, rfl⟩ := hx2 R hM1 hT1
    refine RL.ev (.move rfl) rfl rfl ?_
    refine RL.ev (.extract rfl rfl) rfl rfl ?_
    refine RL.ev (.extract rfl rfl) rfl rfl ?_
    refine RL.ev (.assign rfl) rfl rfl ?_
    refine RL.ev (.assign rfl) rfl rfl ?_
    refine RL.nil (RC.back ?_)
    refine RC.seq ?_
    refine RC.region rfl ?_
    refine RL.ev (.loadR ([.slice na1 A1.nodes.length nc1, .slice fa1 A1.free.length fc1]) sh28 rfl hb_12.row rfl) rfl rfl ?_
    refine RL.ev (.move rfl) rfl rfl ?_
    refine RL.ev (.move rfl) rfl rfl ?_
    refine RL.ev (.move rfl) rfl rfl ?_
    refine RL.call rfl ok9 (c_all A1 na1 fa1 nc1 fc1 r1 hU1 x1 x3 w14 (hA1.sub S1)) rfl rfl ?_
    rintro _ w16 ⟨s17, a4, c4, rows, e5, rfl, o3, _, hx2⟩
    have S := S.trans s17
    have S1 := S1.trans s17
    have hb_12 := hb_12.sub s17
    have o1 := o1.sub s17
    have o2 := o2.sub s17
    obtain ⟨rfl, rfl⟩ := hx2 R hM1 hT1
    have hl1 : (inR x1 x2 R).length ≤ R.length := List.length_filter_le _ _
    have hl2 : (inR (x2 + 1) x3 R).length ≤ R.length := List.length_filter_le _ _
    refine RL.ev (.move rfl) rfl rfl ?_
    refine RL.ev (.extract rfl rfl) rfl rfl ?_
    refine RL.ev (.extract rfl rfl) rfl rfl ?_
    refine RL.ev (.assign rfl) rfl rfl ?_
    refine RL.ev (.assign rfl) rfl rfl ?_
    refine RL.nil (RC.back ?_)
    refine RC.seq ?_
    refine RC.region rfl ?_
    refine RL.call rfl ok10 (c_alive8 w16) rfl rfl ?_
    rintro _ w18 ⟨rfl, s19⟩
    have S := S.trans s19
    have hb_12 := hb_12.sub s19
    have o1 := o1.sub s19
    have o2 := o2.sub s19
    have o3 := o3.sub s19
    refine RL.ev (.move rfl) rfl rfl ?_
    refine RL.ev (.move rfl) rfl rfl ?_
    refine RL.ev (.as (v' := .bool true) (.bin rfl rfl rfl) (congrArg Value.bool (decide_eq_true (rfl)))) rfl rfl ?_
    refine RL.ev (.pick_t rfl rfl) rfl rfl ?_
    refine RL.ev (.move rfl) rfl rfl ?_
    refine RL.ev (.move rfl) rfl rfl ?_
    refine RL.ev (.as (v' := .bool true) (.bin rfl rfl rfl) (congrArg Value.bool (decide_eq_true (rfl)))) rfl rfl ?_
    refine RL.ev (.pick_t rfl rfl) rfl rfl ?_
    refine RL.ev (.move rfl) rfl rfl ?_
    refine RL.ev (.move rfl) rfl rfl ?_
    refine RL.ev (.as (v' := .bool true) (.bin rfl rfl rfl) (congrArg Value.bool (decide_eq_true (rfl)))) rfl rfl ?_
    refine RL.ev (.pick_t rfl rfl) rfl rfl ?_
    refine RL.ev (.move rfl) rfl rfl ?_
    refine RL.buildSlice0 sl23 rfl rfl (fun b_113 w_113 e_113 z_113 hb_113 s_113 => ?_)
    have ge_113 := S.le e_113
    have n_12__113 := hb_12.ne e_113
    have d_o1_b_113 := o1.neNew e_113
    have d_o2_b_113 := o2.neNew e_113
    have d_o3_b_113 := o3.neNew e_113
    have S := S.trans s_113
    have hb_12 := hb_12.sub s_113
    have o1 := o1.sub s_113
    have o2 := o2.sub s_113
    have o3 := o3.sub s_113
    refine RL.ev (.move rfl) rfl rfl ?_
    have sz_115 := S.size
    have ltb_12_115 := hb_12.lt
    have ltb_113_115 := hb_113.lt
    refine RL.append2 (base := w.heap.size) (rows := []) (news := (inR x1 x2 R).map It.cells) sl23 ze42 rfl rfl rfl rfl (.inl (Ows.lit0 hb_113 (by omega))) o1.sl.1 (by simp only [List.length_map]) (by intro r hr; obtain ⟨x, _, rfl⟩ := List.mem_map.1 hr; rfl) (by rw [List.all_eq_true]; intro r hr; obtain ⟨x, _, rfl⟩ := List.mem_map.1 hr; rfl) (by (try simp only [List.length_map, List.length_nil, List.length_append, List.length_cons]); omega) (by (try simp only [List.length_map, List.length_nil, List.length_append, List.length_cons]); omega) (by omega) rfl rfl (fun v_115 w_115 hc_115 ho_115 ag_115 ob_115 => ?_)
    have o115 := ho_115 (.inr (Ows.lit0 hb_113 (by omega)))
    have d_o115_b_12 := obNe ob_115 (fun k hk e => n_12__113.symm ((obLit hk).trans e)) hb_12.lt
    have dd_o115_o1 := obDD ob_115 (fun k hk h2 => d_o1_b_113 k h2 (obLit hk).symm) (fun k hk => (o1.ge k hk).2)
    have dd_o115_o2 := obDD ob_115 (fun k hk h2 => d_o2_b_113 k h2 (obLit hk).symm) (fun k hk => (o2.ge k hk).2)
    have dd_o115_o3 := obDD ob_115 (fun k hk h2 => d_o3_b_113 k h2 (obLit hk).symm) (fun k hk => (o3.ge k hk).2)
    have S := S.agrN ag_115 (fun k e => Nat.le_trans (by omega) e.2)
    have hb_12 := hb_12.step ag_115 (fun e => n_12__113.symm (obLit e.1))
    have o1 := o1.step ag_115 (fun k hk e => (fun k hk h2 => d_o1_b_113 k h2 (obLit hk).symm) k e.1 hk)
    have o2 := o2.step ag_115 (fun k hk e => (fun k hk h2 => d_o2_b_113 k h2 (obLit hk).symm) k e.1 hk)
    have o3 := o3.step ag_115 (fun k hk e => (fun k hk h2 => d_o3_b_113 k h2 (obLit hk).symm) k e.1 hk)
    obtain ⟨a_115, c_115, rfl, k_115⟩ := o115.form
    refine RL.ev (.move rfl) rfl rfl ?_
    have sz_117 := S.size
    have ltb_12_117 := hb_12.lt
    refine RL.append2 (base := w.heap.size) (rows := (inR x1 x2 R).map It.cells) (news := (inR (x2 + 1) x3 R).map It.cells) sl23 ze42 rfl rfl rfl rfl (.inl o115) o2.sl.1 (by simp only [List.length_map]) (by intro r hr; obtain ⟨x, _, rfl⟩ := List.mem_map.1 hr; rfl) (by rw [List.all_eq_true]; intro r hr; obtain ⟨x, _, rfl⟩ := List.mem_map.1 hr; rfl) (by (try simp only [List.length_map, List.length_nil, List.length_append, List.length_cons]); omega) (by (try simp only [List.length_map, List.length_nil, List.length_append, List.length_cons]); omega) (by omega) rfl rfl (fun v_117 w_117 hc_117 ho_117 ag_117 ob_117 => ?_)
    have o117 := ho_117 (.inr o115)
    have d_o117_b_12 := obNe ob_117 d_o115_b_12 hb_12.lt
    have dd_o117_o1 := obDD ob_117 dd_o115_o1 (fun k hk => (o1.ge k hk).2)
    have dd_o117_o2 := obDD ob_117 dd_o115_o2 (fun k hk => (o2.ge k hk).2)
    have dd_o117_o3 := obDD ob_117 dd_o115_o3 (fun k hk => (o3.ge k hk).2)
    have S := S.agrN ag_117 (fun k e => Nat.le_trans (by omega) e.2)
    have hb_12 := hb_12.step ag_117 (fun e => d_o115_b_12 _ e.1 rfl)
    have o1 := o1.step ag_117 (fun k hk e => dd_o115_o1 k e.1 hk)
    have o2 := o2.step ag_117 (fun k hk e => dd_o115_o2 k e.1 hk)
    have o3 := o3.step ag_117 (fun k hk e => dd_o115_o3 k e.1 hk)
    obtain ⟨a_117, c_117, rfl, k_117⟩ := o117.form
    have hpp := inR_parts hRs hx.1 hx.2.1
    rw [← List.map_append, hpp] at o117 ⊢
    refine RL.ev (.move rfl) rfl rfl ?_
    refine RL.call rfl ok11 (c_same (inR x1 x3 R) (inR x1 x3 R) _ _ _ _ _ _ (List.length_map _) (List.length_map _) w_117 o117.sl.1 o3.sl.1 (Nat.le_trans (List.length_filter_le _ _) (by omega))) rfl rfl ?_
    rintro _ w20 ⟨rfl, s21⟩
    have S := S.trans s21
    have hb_12 := hb_12.sub s21
    have o1 := o1.sub s21
    have o2 := o2.sub s21
    have o3 := o3.sub s21
    have o117 := o117.sub s21
    refine RL.ev (.pick_t rfl rfl) rfl rfl ?_
    refine RL.ev (.assign rfl) rfl rfl ?_
    refine RL.nil (RC.back ?_)
    refine RC.done (rs := [.tmp 8]) (vs := [_]) rfl rfl ⟨rfl, trivial⟩ ?_
    -- end 1
    rw [decide_eq_true rfl]
    exact ⟨rfl, S⟩
end Go.Proofs.Ytdmaogopibljoaa
