/-
  The reference's rows: has, Read, Row, Apart, Same, walked.
-/
import Derived.Test.YtefakjhfcgjhgaaDequeRow
set_option linter.unusedVariables false
set_option linter.unusedSimpArgs false
namespace Go.Proofs.Ytefakjhfcgjhgaa
open Go Go.XL

theorem take_has {l : List Int} {i : Nat} {x p : Int} (hx : l[i]? = some x) (h : ¬ p ∈ l.take i) (hp : ¬ x = p) : ¬ p ∈ l.take (i + 1) := by
  rw [List.take_add_one, hx]
  intro hin
  rcases List.mem_append.1 hin with h' | h'
  · exact h h'
  · have : p = x := by simpa using h'
    exact hp this.symm
theorem c_hasI (l : List Int) (a : Option Addr) (c m : Nat) (hm : m = l.length) (p : Int) (w : World) (hl : Sl w a 1 (l.map fun x => [i6 x])) (hb : l.length ≤ 1000000) :
    FC Try.prog 58 [.slice a m c, .int .i64 p] w (Val (.bool (decide (p ∈ l))) w) := by
  subst hm
  refine FC.intro Try.func58 rfl Try.ntmps58 rfl ?_
  have S := Sub.refl w
  refine RC.seq ?_
  refine RC.region rfl ?_
  refine RL.ev (.assign rfl) rfl rfl ?_
  refine RL.nil (RC.back ?_)
  refine RC.seq ?_
  refine RC.seq ?_
  refine RC.region rfl ?_
  refine RL.ev (.move rfl) rfl rfl ?_
  refine RL.ev (.len sl24 rfl) rfl rfl ?_
  refine RL.ev (.move rfl) rfl rfl ?_
  refine RL.nil (RC.back ?_)
  refine RC.block ?_
  refine RC.loop (α := Nat) (fun i => [(1, .int .i64 p), (7, .slice a l.length c), (8, .int .i64 (l.length : Int)), (9, .int .i64 (i : Int))]) (fun i w1 => i ≤ l.length ∧ (¬ p ∈ l.take i) ∧ Sub w w1) (fun i => l.length - i) 0 (keep_of (by repeat (first | exact trivial | refine And.intro rfl ?_))) (⟨Nat.zero_le _, by simp, S⟩) (fun i w1 hJ => ?_)
  obtain ⟨hi, hp, S⟩ := hJ
  refine RC.seq ?_
  refine RC.region rfl ?_
  refine RL.ev (.bin rfl rfl rfl) rfl rfl ?_
  refine RL.nil (RC.back ?_)
  refine RC.seq ?_
  refine RC.cond_dec rfl (fun h2 => ?_) (fun h2 => ?_)
  ·
    obtain ⟨x, hx⟩ := getSome (l := l) (i := i) (by omega)
    refine RC.skip (RC.back ?_)
    refine RC.seq ?_
    refine RC.block ?_
    refine RC.seq ?_
    refine RC.region rfl ?_
    refine RL.ev (.indexS sl24 rfl rfl (by omega) (hl.is (i := 0) (by simp only [List.length_map]; omega))) rfl rfl ?_
    refine RL.ev (.load1 sh3 rfl ((hl.sub S).one (enc := i6) (i := i) hx)) rfl rfl ?_
    refine RL.ev (.assign rfl) rfl rfl ?_
    refine RL.nil (RC.back ?_)
    refine RC.seq ?_
    refine RC.region rfl ?_
    refine RL.ev (.move rfl) rfl rfl ?_
    refine RL.ev (.move rfl) rfl rfl ?_
    refine RL.ev (.bin rfl rfl rfl) rfl rfl ?_
    refine RL.nil (RC.back ?_)
    refine RC.cond_dec rfl (fun h3 => ?_) (fun h3 => ?_)
    ·
      have hxp : x = p := h3
      refine RC.seq ?_
      refine RC.region rfl ?_
      refine RL.ev (.assign rfl) rfl rfl ?_
      refine RL.nil (RC.back ?_)
      refine RC.done (rs := [.tmp 4]) (vs := [_]) rfl rfl ⟨rfl, trivial⟩ ?_
      -- end 1
      exact ⟨congrArg Value.bool (decide_eq_true (hxp ▸ List.mem_of_getElem? hx)).symm, S⟩
    ·
      have hxp : ¬ x = p := h3
      refine RC.skip (RC.back ?_)
      refine RC.region rfl ?_
      refine RL.ev (.as (.bin rfl rfl rfl) (wi64 (y := ((i + 1 : Nat) : Int)) (by omega) (by omega))) rfl rfl ?_
      refine RL.ev (.move rfl) rfl rfl ?_
      exact RL.nil (fun a ka => ⟨i + 1, ⟨by omega, take_has hx hp hxp, S⟩, by omega, ka.keep (keep_of (by repeat (first | exact trivial | refine And.intro rfl ?_)))⟩)
  ·
    obtain rfl : i = l.length := (by omega)
    rw [List.take_length] at hp
    refine RC.exit rfl (RC.back ?_)
    refine RC.seq ?_
    refine RC.region rfl ?_
    refine RL.ev (.assign rfl) rfl rfl ?_
    refine RL.nil (RC.back ?_)
    refine RC.done (rs := [.tmp 4]) (vs := [_]) rfl rfl ⟨rfl, trivial⟩ ?_
    -- end 2
    exact ⟨congrArg Value.bool (decide_eq_false hp).symm, S⟩
theorem ints_ext {l m : List Int} {i : Nat} {x y : Int} (hx : l[i]? = some x) (hy : m[i]? = some y) (h : l.take i = m.take i) (e : x = y) : l.take (i + 1) = m.take (i + 1) := by
  rw [List.take_add_one, List.take_add_one, hx, hy, h, e]
theorem c_same11 (l m : List Int) (a b : Option Addr) (c d n k : Nat) (hn : n = l.length) (hk : k = m.length) (w : World) (hl : Sl w a 1 (l.map fun x => [i6 x])) (hm : Sl w b 1 (m.map fun x => [i6 x])) (hb : l.length ≤ 1000000) :
    FC Try.prog 14 [.slice a n c, .slice b k d] w (Val (.bool (decide (l = m))) w) := by
  subst hn hk
  refine FC.intro Try.func14 rfl Try.ntmps14 rfl ?_
  have S := Sub.refl w
  refine RC.seq ?_
  refine RC.region rfl ?_
  refine RL.ev (.assign rfl) rfl rfl ?_
  refine RL.nil (RC.back ?_)
  refine RC.seq ?_
  refine RC.seq ?_
  refine RC.region rfl ?_
  refine RL.ev (.move rfl) rfl rfl ?_
  refine RL.ev (.len sl22 rfl) rfl rfl ?_
  refine RL.ev (.move rfl) rfl rfl ?_
  refine RL.ev (.len sl22 rfl) rfl rfl ?_
  refine RL.ev (.bin rfl rfl rfl) rfl rfl ?_
  refine RL.nil (RC.back ?_)
  refine RC.cond_dec rfl (fun h1 => ?_) (fun h1 => ?_)
  ·
    have hne : ¬ l = m := (fun e => by subst e; exact absurd rfl h1)
    refine RC.seq ?_
    refine RC.region rfl ?_
    refine RL.ev (.assign rfl) rfl rfl ?_
    refine RL.nil (RC.back ?_)
    refine RC.done (rs := [.tmp 4]) (vs := [_]) rfl rfl ⟨rfl, trivial⟩ ?_
    -- end 1
    rw [decide_eq_false hne]
    exact ⟨rfl, S⟩
  ·
    have hlen : l.length = m.length := (by have := h1; omega)
    refine RC.skip (RC.back ?_)
    refine RC.seq ?_
    refine RC.seq ?_
    refine RC.region rfl ?_
    refine RL.ev (.move rfl) rfl rfl ?_
    refine RL.ev (.len sl22 rfl) rfl rfl ?_
    refine RL.ev (.move rfl) rfl rfl ?_
    refine RL.nil (RC.back ?_)
    refine RC.block ?_
    refine RC.loop (α := Nat) (fun i => [(0, .slice a l.length c), (1, .slice b m.length d), (12, .int .i64 (l.length : Int)), (13, .int .i64 (i : Int))]) (fun i w2 => (i ≤ l.length ∧ l.take i = m.take i) ∧ Sub w w2) (fun i => l.length - i) 0 (keep_of (by repeat (first | exact trivial | refine And.intro rfl ?_))) (⟨⟨Nat.zero_le _, by simp⟩, S⟩) (fun i w2 hJ => ?_)
    obtain ⟨⟨hi, hp⟩, S⟩ := hJ
    refine RC.seq ?_
    refine RC.region rfl ?_
    refine RL.ev (.bin rfl rfl rfl) rfl rfl ?_
    refine RL.nil (RC.back ?_)
    refine RC.seq ?_
    refine RC.cond_dec rfl (fun h3 => ?_) (fun h3 => ?_)
    ·
      obtain ⟨x, hx⟩ := getSome (l := l) (i := i) (by omega)
      obtain ⟨y, hy⟩ := getSome (l := m) (i := i) (by omega)
      refine RC.skip (RC.back ?_)
      refine RC.seq ?_
      refine RC.block ?_
      refine RC.seq ?_
      refine RC.region rfl ?_
      refine RL.ev (.move rfl) rfl rfl ?_
      refine RL.ev (.assign rfl) rfl rfl ?_
      refine RL.nil (RC.back ?_)
      refine RC.seq ?_
      refine RC.draw rfl mxo (by kernel_rfl) ?_
      refine RQ.ev (.move rfl) rfl rfl ?_
      refine RQ.ev (.move rfl) rfl rfl ?_
      refine RQ.ev (.indexS sl22 rfl rfl (by omega) (hl.is (i := 0) (by simp only [List.length_map]; omega))) rfl rfl ?_
      refine RQ.ev (.load1 sh2 rfl ((hl.sub S).one (enc := i6) (i := i) hx)) rfl rfl ?_
      refine RQ.ev (.move rfl) rfl rfl ?_
      refine RQ.ev (.move rfl) rfl rfl ?_
      refine RQ.ev (.indexS sl22 rfl rfl (by omega) (hm.is (i := 0) (by simp only [List.length_map]; omega))) rfl rfl ?_
      refine RQ.ev (.load1 sh2 rfl ((hm.sub S).one (enc := i6) (i := i) hy)) rfl rfl ?_
      refine RQ.ev (.bin rfl rfl rfl) rfl rfl ?_
      refine RQ.nil (fun w4 s5 => RC.back ?_)
      have S := S.trans s5
      refine RC.cond_dec rfl (fun h6 => ?_) (fun h6 => ?_)
      ·
        have hxy : ¬ x = y := h6
        have hne : ¬ l = m := (fun e => by subst e; rw [hx] at hy; cases hy; exact hxy rfl)
        refine RC.seq ?_
        refine RC.region rfl ?_
        refine RL.ev (.assign rfl) rfl rfl ?_
        refine RL.nil (RC.back ?_)
        refine RC.done (rs := [.tmp 4]) (vs := [_]) rfl rfl ⟨rfl, trivial⟩ ?_
        -- end 2
        rw [decide_eq_false hne]
        exact ⟨rfl, S⟩
      ·
        have hxy : x = y := Decidable.not_not.1 h6
        refine RC.skip (RC.back ?_)
        refine RC.region rfl ?_
        refine RL.ev (.as (.bin rfl rfl rfl) (wi64 (y := ((i + 1 : Nat) : Int)) (by omega) (by omega))) rfl rfl ?_
        refine RL.ev (.move rfl) rfl rfl ?_
        exact RL.nil (fun a ka => ⟨i + 1, ⟨⟨by omega, ints_ext hx hy hp hxy⟩, S⟩, by omega, ka.keep (keep_of (by repeat (first | exact trivial | refine And.intro rfl ?_)))⟩)
    ·
      obtain rfl : i = l.length := (by omega)
      rw [List.take_length, hlen, List.take_length] at hp
      refine RC.exit rfl (RC.back ?_)
      refine RC.seq ?_
      refine RC.region rfl ?_
      refine RL.ev (.assign rfl) rfl rfl ?_
      refine RL.nil (RC.back ?_)
      refine RC.done (rs := [.tmp 4]) (vs := [_]) rfl rfl ⟨rfl, trivial⟩ ?_
      -- end 3
      rw [decide_eq_true hp]
      exact ⟨rfl, S⟩
def tC (t : Rd) (ma : Option Addr) (mc : Nat) (va : Option Addr) (vc : Nat) : List Value := [.slice ma (t.1.map fun x => [i6 x]).length mc, .slice va (t.2.1.map fun x => [i6 x]).length vc, .bool t.2.2]
/-- how the reference's rows stand; what else is kept -/
structure RdS (w0 : World) (E : Nat) (K : Nat → Prop) (I : World → Prop) (t : Rd) (ma : Option Addr) (mc : Nat) (va : Option Addr) (vc : Nat) (w : World) : Prop where
  S : Sub w0 w
  sz : E ≤ w.heap.size
  om : Ows E w 3 1 (.slice ma (t.1.map fun x => [i6 x]).length mc) (t.1.map fun x => [i6 x])
  ov : Ows E w 2 1 (.slice va (t.2.1.map fun x => [i6 x]).length vc) (t.2.1.map fun x => [i6 x])
  d : ∀ k, ob (.slice ma (t.1.map fun x => [i6 x]).length mc) = some k → ob (.slice va (t.2.1.map fun x => [i6 x]).length vc) = some k → False
  hI : Ft K I w
  dm : ∀ k, ob (.slice ma (t.1.map fun x => [i6 x]).length mc) = some k → K k → False
  dv : ∀ k, ob (.slice va (t.2.1.map fun x => [i6 x]).length vc) = some k → K k → False
theorem eq_rNode {y : Node} : (!decide (y = rNode y.gen y.v y.s y.k0 y.k1)) = true ↔ ¬ y = rNode y.gen y.v y.s y.k0 y.k1 := by simp
set_option maxHeartbeats 4000000 in
theorem c_read (A : Ar) (na fa : Option Addr) (nc fc : Nat) (hn : A.nodes.length ≤ 1000000000) (w0 : World) (hA : ArR w0 na fa A) (E : Nat) (gE : w0.heap.size ≤ E) : ∀ (k : Nat) (met v : List Int) (ok : Bool) (ma : Option Addr) (mc : Nat) (va : Option Addr) (vc : Nat) (r : Int) (K : Nat → Prop) (I : World → Prop) (w : World), U64 r → 202 ≤ met.length + k → met.length ≤ 201 → v.length ≤ met.length → RdS w0 E K I (met, v, ok) ma mc va vc w →
    FC Try.prog 41 [arV na fa nc fc A, .agg (tC (met, v, ok) ma mc va vc).toArray, .int .u64 r] w (fun u w' => ∃ ma' mc' va' vc', u = .agg (tC (readF A k (met, v, ok) r) ma' mc' va' vc').toArray ∧ RdS w0 E K I (readF A k (met, v, ok) r) ma' mc' va' vc' w') := by
  intro k
  induction k with
  | zero => intro met v ok ma mc va vc r K I w _ h1 h2; omega
  | succ k ih =>
  intro met v ok ma mc va vc r K I w hr hk hml hvl hs
  obtain ⟨S, szB, om, ov, dmv, hI, dm, dv⟩ := hs
  simp only [] at om ov dmv dm dv
  have hf := atA_form A r
  have hN := hA.nodes
  have hFr := hA.free
  have rl := readF_len A (k + 1) (met, v, ok) r
  simp only [] at rl
  refine FC.intro Try.func41 rfl Try.ntmps41 rfl ?_
  refine RC.seq ?_
  refine RC.region rfl ?_
  refine RL.box rfl rfl rfl (fun b_3 w_3 e_3 z_3 hb_3 s_3 => ?_)
  have ge_3 := S.le e_3
  have d_om_b_3 := om.neNew e_3
  have d_ov_b_3 := ov.neNew e_3
  have d_hI_b_3 := hI.neNew e_3
  have S := S.trans s_3
  have om := om.sub s_3
  have ov := ov.sub s_3
  have hI := hI.sub s_3
  have szB := Nat.le_trans szB s_3.size
  have hb_3 : Has w_3 b_3 ([.slice na A.nodes.length nc, .slice fa A.free.length fc]) _ := hb_3
  refine RL.box rfl rfl rfl (fun b_4 w_4 e_4 z_4 hb_4 s_4 => ?_)
  have ge_4 := S.le e_4
  have n_3__4 := hb_3.ne e_4
  have d_om_b_4 := om.neNew e_4
  have d_ov_b_4 := ov.neNew e_4
  have d_hI_b_4 := hI.neNew e_4
  have S := S.trans s_4
  have om := om.sub s_4
  have ov := ov.sub s_4
  have hI := hI.sub s_4
  have szB := Nat.le_trans szB s_4.size
  have hb_3 := hb_3.sub s_4
  have hb_4 : Has w_4 b_4 (tC (met, v, ok) ma mc va vc) _ := hb_4
  refine RL.alloc ze93 rfl rfl (fun b_6 w_6 e_6 z_6 hb_6 s_6 => ?_)
  have ge_6 := S.le e_6
  have n_3__6 := hb_3.ne e_6
  have n_4__6 := hb_4.ne e_6
  have d_om_b_6 := om.neNew e_6
  have d_ov_b_6 := ov.neNew e_6
  have d_hI_b_6 := hI.neNew e_6
  have S := S.trans s_6
  have om := om.sub s_6
  have ov := ov.sub s_6
  have hI := hI.sub s_6
  have szB := Nat.le_trans szB s_6.size
  have hb_3 := hb_3.sub s_6
  have hb_4 := hb_4.sub s_6
  refine RL.nil (RC.back ?_)
  refine RC.seq ?_
  refine RC.seq ?_
  refine RC.region rfl ?_
  refine RL.ev (.move rfl) rfl rfl ?_
  refine RL.ev (.bin rfl rfl rfl) rfl rfl ?_
  refine RL.ev (.move rfl) rfl rfl ?_
  refine RL.split 13 rfl (fun h1 => ?_) (fun h1 => ?_)
  ·
    have hres : readF A (k + 1) (met, v, ok) r = (met, v, ok) := readF_stop (.inl h1)
    refine RL.off rfl rfl ?_
    refine RL.off rfl rfl ?_
    refine RL.off rfl rfl ?_
    refine RL.ev (.pick_t rfl rfl) rfl rfl ?_
    refine RL.nil (RC.back ?_)
    refine RC.cond_t rfl ?_
    refine RC.seq ?_
    refine RC.region rfl ?_
    refine RL.ev (.loadR (tC (met, v, ok) ma mc va vc) sh93 rfl hb_4.row rfl) rfl rfl ?_
    refine RL.store sh93 rfl rfl rfl hb_6 (by exact Nat.le_of_ble_eq_true rfl) (by rfl) rfl (fun w2 z2 hb_6 a2 => ?_)
    have S := S.upd a2 ge_6
    have om := om.updD a2 d_om_b_6
    have ov := ov.updD a2 d_ov_b_6
    have hI := hI.updD a2 d_hI_b_6
    have szB := Nat.le_trans szB a2.size
    have hb_3 := hb_3.upd a2 n_3__6
    have hb_4 := hb_4.upd a2 n_4__6
    have hb_6 : Has w2 b_6 (tC (met, v, ok) ma mc va vc) _ := hb_6.now (by kernel_rfl)
    refine RL.nil (RC.back ?_)
    refine RC.done (rs := [.cell 6 93]) (vs := [_]) rfl rfl ⟨⟨_, rfl, .inr ⟨tC (met, v, ok) ma mc va vc, sh93, hb_6.row, rfl⟩⟩, trivial⟩ ?_
    -- end 1
    rw [hres]
    exact ⟨ma, mc, va, vc, rfl, ⟨S, szB, om, ov, dmv, hI, dm, dv⟩⟩
  ·
    have hr0 := h1
    refine RL.ev (.field0 fo93_2 rfl) rfl rfl ?_
    refine RL.ev (.load1 sh4 rfl (hb_4.cell rfl)) rfl rfl ?_
    refine RL.ev (.not rfl) rfl rfl ?_
    refine RL.ev (.pick_f rfl rfl) rfl rfl ?_
    refine RL.nil (RC.back ?_)
    refine RC.cond rfl (fun h3 => ?_) (fun h3 => ?_)
    ·
      have hres : readF A (k + 1) (met, v, ok) r = (met, v, ok) := readF_stop (.inr (by simpa using h3))
      refine RC.seq ?_
      refine RC.region rfl ?_
      refine RL.ev (.loadR (tC (met, v, ok) ma mc va vc) sh93 rfl hb_4.row rfl) rfl rfl ?_
      refine RL.store sh93 rfl rfl rfl hb_6 (by exact Nat.le_of_ble_eq_true rfl) (by rfl) rfl (fun w4 z4 hb_6 a4 => ?_)
      have S := S.upd a4 ge_6
      have om := om.updD a4 d_om_b_6
      have ov := ov.updD a4 d_ov_b_6
      have hI := hI.updD a4 d_hI_b_6
      have szB := Nat.le_trans szB a4.size
      have hb_3 := hb_3.upd a4 n_3__6
      have hb_4 := hb_4.upd a4 n_4__6
      have hb_6 : Has w4 b_6 (tC (met, v, ok) ma mc va vc) _ := hb_6.now (by kernel_rfl)
      refine RL.nil (RC.back ?_)
      refine RC.done (rs := [.cell 6 93]) (vs := [_]) rfl rfl ⟨⟨_, rfl, .inr ⟨tC (met, v, ok) ma mc va vc, sh93, hb_6.row, rfl⟩⟩, trivial⟩ ?_
      -- end 2
      rw [hres]
      exact ⟨ma, mc, va, vc, rfl, ⟨S, szB, om, ov, dmv, hI, dm, dv⟩⟩
    ·
      obtain rfl : ok = true := (by simpa using h3)
      have h0 : ¬ (r = 0 ∨ ((met, v, true) : Rd).2.2 = false) := (fun e => e.elim hr0 (fun e => by cases e))
      refine RC.skip (RC.back ?_)
      refine RC.seq ?_
      refine RC.region rfl ?_
      refine RL.ev (.loadR ([.slice na A.nodes.length nc, .slice fa A.free.length fc]) sh26 rfl hb_3.row rfl) rfl rfl ?_
      refine RL.ev (.move rfl) rfl rfl ?_
      refine RL.call rfl ok57 (c_r4At A na fa nc fc r hr w_6 (hA.sub S) hn) rfl rfl ?_
      rintro _ w5 ⟨rfl, s6⟩
      have S := S.trans s6
      have om := om.sub s6
      have ov := ov.sub s6
      have hI := hI.sub s6
      have szB := Nat.le_trans szB s6.size
      have hb_3 := hb_3.sub s6
      have hb_4 := hb_4.sub s6
      have hb_6 := hb_6.sub s6
      refine RL.ev (.assign rfl) rfl rfl ?_
      refine RL.nil (RC.back ?_)
      refine RC.seq ?_
      refine RC.seq ?_
      refine RC.region rfl ?_
      refine RL.ev (.move rfl) rfl rfl ?_
      refine RL.ev (.bin rfl rfl rfl) rfl rfl ?_
      refine RL.ev (.move rfl) rfl rfl ?_
      refine RL.split 24 rfl (fun h7 => ?_) (fun h7 => ?_)
      ·
        have hres : readF A (k + 1) (met, v, true) r = (met, v, false) := readF_none h0 (hf.1 h7)
        refine RL.off rfl rfl ?_
        refine RL.off rfl rfl ?_
        refine RL.off rfl rfl ?_
        refine RL.off rfl rfl ?_
        refine RL.ev (.pick_t rfl rfl) rfl rfl ?_
        refine RL.ev (.move rfl) rfl rfl ?_
        refine RL.off rfl rfl ?_
        refine RL.off rfl rfl ?_
        refine RL.off rfl rfl ?_
        refine RL.off rfl rfl ?_
        refine RL.ev (.pick_t rfl rfl) rfl rfl ?_
        refine RL.nil (RC.back ?_)
        refine RC.cond_t rfl ?_
        refine RC.seq ?_
        refine RC.region rfl ?_
        refine RL.ev (.field0 fo93_2 rfl) rfl rfl ?_
        refine RL.store sh4 rfl rfl rfl hb_4 (by exact Nat.le_of_ble_eq_true rfl) (by rfl) rfl (fun w8 z8 hb_4 a8 => ?_)
        have S := S.upd a8 ge_4
        have om := om.updD a8 d_om_b_4
        have ov := ov.updD a8 d_ov_b_4
        have hI := hI.updD a8 d_hI_b_4
        have szB := Nat.le_trans szB a8.size
        have hb_3 := hb_3.upd a8 n_3__4
        have hb_6 := hb_6.upd a8 n_4__6.symm
        have hb_4 : Has w8 b_4 (tC (met, v, false) ma mc va vc) _ := hb_4
        refine RL.nil (RC.back ?_)
        refine RC.seq ?_
        refine RC.region rfl ?_
        refine RL.ev (.loadR (tC (met, v, false) ma mc va vc) sh93 rfl hb_4.row rfl) rfl rfl ?_
        refine RL.store sh93 rfl rfl rfl hb_6 (by exact Nat.le_of_ble_eq_true rfl) (by rfl) rfl (fun w9 z9 hb_6 a9 => ?_)
        have S := S.upd a9 ge_6
        have om := om.updD a9 d_om_b_6
        have ov := ov.updD a9 d_ov_b_6
        have hI := hI.updD a9 d_hI_b_6
        have szB := Nat.le_trans szB a9.size
        have hb_3 := hb_3.upd a9 n_3__6
        have hb_4 := hb_4.upd a9 n_4__6
        have hb_6 : Has w9 b_6 (tC (met, v, false) ma mc va vc) _ := hb_6.now (by kernel_rfl)
        refine RL.nil (RC.back ?_)
        refine RC.done (rs := [.cell 6 93]) (vs := [_]) rfl rfl ⟨⟨_, rfl, .inr ⟨tC (met, v, false) ma mc va vc, sh93, hb_6.row, rfl⟩⟩, trivial⟩ ?_
        -- end 3
        rw [hres]
        exact ⟨ma, mc, va, vc, rfl, ⟨S, szB, om, ov, dmv, hI, dm, dv⟩⟩
      ·
        obtain ⟨y, hy, hay⟩ := hf.2 h7
        have hrg := getA_rng hy
        refine RL.ev (.field0 fo93_0 rfl) rfl rfl ?_
        refine RL.ev (.load1 sh24 rfl (hb_4.cell rfl)) rfl rfl ?_
        refine RL.ev (.move rfl) rfl rfl ?_
        refine RL.call rfl ok58 (c_hasI met ma mc _ (List.length_map _) (atA A r) w5 om.sl.1 (by omega)) rfl rfl ?_
        rintro _ w10 ⟨rfl, s11⟩
        have S := S.trans s11
        have om := om.sub s11
        have ov := ov.sub s11
        have hI := hI.sub s11
        have szB := Nat.le_trans szB s11.size
        have hb_3 := hb_3.sub s11
        have hb_4 := hb_4.sub s11
        have hb_6 := hb_6.sub s11
        refine RL.ev (.pick_f rfl rfl) rfl rfl ?_
        refine RL.ev (.move rfl) rfl rfl ?_
        refine RL.split 30 rfl (fun h12 => ?_) (fun h12 => ?_)
        ·
          have hres : readF A (k + 1) (met, v, true) r = (met, v, false) := readF_met h0 hy (.inl (hay ▸ h12))
          refine RL.off rfl rfl ?_
          refine RL.off rfl rfl ?_
          refine RL.off rfl rfl ?_
          refine RL.off rfl rfl ?_
          refine RL.ev (.pick_t rfl rfl) rfl rfl ?_
          refine RL.nil (RC.back ?_)
          refine RC.cond_t rfl ?_
          refine RC.seq ?_
          refine RC.region rfl ?_
          refine RL.ev (.field0 fo93_2 rfl) rfl rfl ?_
          refine RL.store sh4 rfl rfl rfl hb_4 (by exact Nat.le_of_ble_eq_true rfl) (by rfl) rfl (fun w13 z13 hb_4 a13 => ?_)
          have S := S.upd a13 ge_4
          have om := om.updD a13 d_om_b_4
          have ov := ov.updD a13 d_ov_b_4
          have hI := hI.updD a13 d_hI_b_4
          have szB := Nat.le_trans szB a13.size
          have hb_3 := hb_3.upd a13 n_3__4
          have hb_6 := hb_6.upd a13 n_4__6.symm
          have hb_4 : Has w13 b_4 (tC (met, v, false) ma mc va vc) _ := hb_4
          refine RL.nil (RC.back ?_)
          refine RC.seq ?_
          refine RC.region rfl ?_
          refine RL.ev (.loadR (tC (met, v, false) ma mc va vc) sh93 rfl hb_4.row rfl) rfl rfl ?_
          refine RL.store sh93 rfl rfl rfl hb_6 (by exact Nat.le_of_ble_eq_true rfl) (by rfl) rfl (fun w14 z14 hb_6 a14 => ?_)
          have S := S.upd a14 ge_6
          have om := om.updD a14 d_om_b_6
          have ov := ov.updD a14 d_ov_b_6
          have hI := hI.updD a14 d_hI_b_6
          have szB := Nat.le_trans szB a14.size
          have hb_3 := hb_3.upd a14 n_3__6
          have hb_4 := hb_4.upd a14 n_4__6
          have hb_6 : Has w14 b_6 (tC (met, v, false) ma mc va vc) _ := hb_6.now (by kernel_rfl)
          refine RL.nil (RC.back ?_)
          refine RC.done (rs := [.cell 6 93]) (vs := [_]) rfl rfl ⟨⟨_, rfl, .inr ⟨tC (met, v, false) ma mc va vc, sh93, hb_6.row, rfl⟩⟩, trivial⟩ ?_
          -- end 4
          rw [hres]
          exact ⟨ma, mc, va, vc, rfl, ⟨S, szB, om, ov, dmv, hI, dm, dv⟩⟩
        ·
          have q30 : ¬ placeR r ∈ met := hay ▸ h12
          refine RL.ev (.field0 fo93_0 rfl) rfl rfl ?_
          refine RL.ev (.load1 sh24 rfl (hb_4.cell rfl)) rfl rfl ?_
          refine RL.ev (.as (v' := .int .i64 (met.length : Int)) (.len sl24 rfl) (by rw [List.length_map])) rfl rfl ?_
          refine RL.ev (.bin rfl rfl rfl) rfl rfl ?_
          refine RL.ev (.pick_f rfl rfl) rfl rfl ?_
          refine RL.nil (RC.back ?_)
          refine RC.cond_dec rfl (fun h15 => ?_) (fun h15 => ?_)
          ·
            have hres : readF A (k + 1) (met, v, true) r = (met, v, false) := readF_met h0 hy (.inr (by show 200 < met.length; have := h15; omega))
            refine RC.seq ?_
            refine RC.region rfl ?_
            refine RL.ev (.field0 fo93_2 rfl) rfl rfl ?_
            refine RL.store sh4 rfl rfl rfl hb_4 (by exact Nat.le_of_ble_eq_true rfl) (by rfl) rfl (fun w16 z16 hb_4 a16 => ?_)
            have S := S.upd a16 ge_4
            have om := om.updD a16 d_om_b_4
            have ov := ov.updD a16 d_ov_b_4
            have hI := hI.updD a16 d_hI_b_4
            have szB := Nat.le_trans szB a16.size
            have hb_3 := hb_3.upd a16 n_3__4
            have hb_6 := hb_6.upd a16 n_4__6.symm
            have hb_4 : Has w16 b_4 (tC (met, v, false) ma mc va vc) _ := hb_4
            refine RL.nil (RC.back ?_)
            refine RC.seq ?_
            refine RC.region rfl ?_
            refine RL.ev (.loadR (tC (met, v, false) ma mc va vc) sh93 rfl hb_4.row rfl) rfl rfl ?_
            refine RL.store sh93 rfl rfl rfl hb_6 (by exact Nat.le_of_ble_eq_true rfl) (by rfl) rfl (fun w17 z17 hb_6 a17 => ?_)
            have S := S.upd a17 ge_6
            have om := om.updD a17 d_om_b_6
            have ov := ov.updD a17 d_ov_b_6
            have hI := hI.updD a17 d_hI_b_6
            have szB := Nat.le_trans szB a17.size
            have hb_3 := hb_3.upd a17 n_3__6
            have hb_4 := hb_4.upd a17 n_4__6
            have hb_6 : Has w17 b_6 (tC (met, v, false) ma mc va vc) _ := hb_6.now (by kernel_rfl)
            refine RL.nil (RC.back ?_)
            refine RC.done (rs := [.cell 6 93]) (vs := [_]) rfl rfl ⟨⟨_, rfl, .inr ⟨tC (met, v, false) ma mc va vc, sh93, hb_6.row, rfl⟩⟩, trivial⟩ ?_
            -- end 5
            rw [hres]
            exact ⟨ma, mc, va, vc, rfl, ⟨S, szB, om, ov, dmv, hI, dm, dv⟩⟩
          ·
            have hc : ¬ (placeR r ∈ met ∨ 200 < met.length) := (fun e => e.elim q30 (fun e => by have := h15; omega))
            have hm200 : met.length ≤ 200 := (by have := h15; omega)
            refine RC.skip (RC.back ?_)
            refine RC.seq ?_
            refine RC.region rfl ?_
            refine RL.ev (.field0 fo26_0 rfl) rfl rfl ?_
            refine RL.ev (.load1 sh23 rfl (hb_3.cell rfl)) rfl rfl ?_
            refine RL.ev (.as (v' := .int .i64 (placeR r)) (.move rfl) (by rw [hay])) rfl rfl ?_
            refine RL.ev (.indexS sl23 rfl rfl (by omega) (hN.is (i := 0) (by simp only [List.length_map]; omega))) rfl rfl ?_
            refine RL.ev (.loadR (y.cells) sh73 rfl ((hN.sub S).rowAt (enc := Node.cells) (getA_get hy).1) rfl) rfl rfl ?_
            refine RL.alloc ze73 rfl rfl (fun b_8 w_8 e_8 z_8 hb_8 s_8 => ?_)
            have ge_8 := S.le e_8
            have n_3__8 := hb_3.ne e_8
            have n_4__8 := hb_4.ne e_8
            have n_6__8 := hb_6.ne e_8
            have d_om_b_8 := om.neNew e_8
            have d_ov_b_8 := ov.neNew e_8
            have d_hI_b_8 := hI.neNew e_8
            have S := S.trans s_8
            have om := om.sub s_8
            have ov := ov.sub s_8
            have hI := hI.sub s_8
            have szB := Nat.le_trans szB s_8.size
            have hb_3 := hb_3.sub s_8
            have hb_4 := hb_4.sub s_8
            have hb_6 := hb_6.sub s_8
            refine RL.store sh73 rfl rfl rfl hb_8 (by exact Nat.le_of_ble_eq_true rfl) (by rfl) rfl (fun w18 z18 hb_8 a18 => ?_)
            have S := S.upd a18 ge_8
            have om := om.updD a18 d_om_b_8
            have ov := ov.updD a18 d_ov_b_8
            have hI := hI.updD a18 d_hI_b_8
            have szB := Nat.le_trans szB a18.size
            have hb_3 := hb_3.upd a18 n_3__8
            have hb_4 := hb_4.upd a18 n_4__8
            have hb_6 := hb_6.upd a18 n_6__8
            have hb_8 : Has w18 b_8 (y.cells) _ := hb_8.now (by kernel_rfl)
            refine RL.nil (RC.back ?_)
            refine RC.seq ?_
            refine RC.region rfl ?_
            refine RL.ev (.field0 fo73_1 rfl) rfl rfl ?_
            refine RL.ev (.load1 sh3 rfl (hb_8.cell rfl)) rfl rfl ?_
            refine RL.ev (.field0 fo73_3 rfl) rfl rfl ?_
            refine RL.ev (.load1 sh2 rfl (hb_8.cell rfl)) rfl rfl ?_
            refine RL.ev (.field0 fo73_4 rfl) rfl rfl ?_
            refine RL.ev (.load1 sh2 rfl (hb_8.cell rfl)) rfl rfl ?_
            refine RL.ev (.buildS ze73 pl73 rfl rfl) rfl rfl ?_
            refine RL.alloc ze73 rfl rfl (fun b_9 w_9 e_9 z_9 hb_9 s_9 => ?_)
            have ge_9 := S.le e_9
            have n_3__9 := hb_3.ne e_9
            have n_4__9 := hb_4.ne e_9
            have n_6__9 := hb_6.ne e_9
            have n_8__9 := hb_8.ne e_9
            have d_om_b_9 := om.neNew e_9
            have d_ov_b_9 := ov.neNew e_9
            have d_hI_b_9 := hI.neNew e_9
            have S := S.trans s_9
            have om := om.sub s_9
            have ov := ov.sub s_9
            have hI := hI.sub s_9
            have szB := Nat.le_trans szB s_9.size
            have hb_3 := hb_3.sub s_9
            have hb_4 := hb_4.sub s_9
            have hb_6 := hb_6.sub s_9
            have hb_8 := hb_8.sub s_9
            refine RL.store sh73 rfl rfl rfl hb_9 (by exact Nat.le_of_ble_eq_true rfl) (by rfl) rfl (fun w19 z19 hb_9 a19 => ?_)
            have S := S.upd a19 ge_9
            have om := om.updD a19 d_om_b_9
            have ov := ov.updD a19 d_ov_b_9
            have hI := hI.updD a19 d_hI_b_9
            have szB := Nat.le_trans szB a19.size
            have hb_3 := hb_3.upd a19 n_3__9
            have hb_4 := hb_4.upd a19 n_4__9
            have hb_6 := hb_6.upd a19 n_6__9
            have hb_8 := hb_8.upd a19 n_8__9
            have hb_9 : Has w19 b_9 ((rNode y.gen y.v y.s 0 0).cells) _ := hb_9.now (by kernel_rfl)
            refine RL.nil (RC.back ?_)
            refine RC.seq ?_
            refine RC.region rfl ?_
            refine RL.ev (.field0 fo73_5 rfl) rfl rfl ?_
            refine RL.ev (.indexArr ar71 rfl rfl (by omega)) rfl rfl ?_
            refine RL.ev (.load1 sh28 rfl (hb_8.cell rfl)) rfl rfl ?_
            refine RL.ev (.field0 fo73_5 rfl) rfl rfl ?_
            refine RL.ev (.indexArr ar71 rfl rfl (by omega)) rfl rfl ?_
            refine RL.store sh28 rfl rfl rfl hb_9 (by exact Nat.le_of_ble_eq_true rfl) (by rfl) rfl (fun w20 z20 hb_9 a20 => ?_)
            have S := S.upd a20 ge_9
            have om := om.updD a20 d_om_b_9
            have ov := ov.updD a20 d_ov_b_9
            have hI := hI.updD a20 d_hI_b_9
            have szB := Nat.le_trans szB a20.size
            have hb_3 := hb_3.upd a20 n_3__9
            have hb_4 := hb_4.upd a20 n_4__9
            have hb_6 := hb_6.upd a20 n_6__9
            have hb_8 := hb_8.upd a20 n_8__9
            have hb_9 : Has w20 b_9 (rNode y.gen y.v y.s y.k0 0).cells 73 := hb_9
            refine RL.nil (RC.back ?_)
            refine RC.seq ?_
            refine RC.region rfl ?_
            refine RL.ev (.field0 fo73_5 rfl) rfl rfl ?_
            refine RL.ev (.indexArr ar71 rfl rfl (by omega)) rfl rfl ?_
            refine RL.ev (.load1 sh28 rfl (hb_8.cell rfl)) rfl rfl ?_
            refine RL.ev (.field0 fo73_5 rfl) rfl rfl ?_
            refine RL.ev (.indexArr ar71 rfl rfl (by omega)) rfl rfl ?_
            refine RL.store sh28 rfl rfl rfl hb_9 (by exact Nat.le_of_ble_eq_true rfl) (by rfl) rfl (fun w21 z21 hb_9 a21 => ?_)
            have S := S.upd a21 ge_9
            have om := om.updD a21 d_om_b_9
            have ov := ov.updD a21 d_ov_b_9
            have hI := hI.updD a21 d_hI_b_9
            have szB := Nat.le_trans szB a21.size
            have hb_3 := hb_3.upd a21 n_3__9
            have hb_4 := hb_4.upd a21 n_4__9
            have hb_6 := hb_6.upd a21 n_6__9
            have hb_8 := hb_8.upd a21 n_8__9
            have hb_9 : Has w21 b_9 (rNode y.gen y.v y.s y.k0 y.k1).cells 73 := hb_9
            refine RL.nil (RC.back ?_)
            refine RC.seq ?_
            refine RC.seq ?_
            refine RC.region rfl ?_
            refine RL.ev (.loadR (y.cells) sh73 rfl hb_8.row rfl) rfl rfl ?_
            refine RL.ev (.loadR ((rNode y.gen y.v y.s y.k0 y.k1).cells) sh73 rfl hb_9.row rfl) rfl rfl ?_
            refine RL.ev (.neS (xs := y.cells) (ys := (rNode y.gen y.v y.s y.k0 y.k1).cells) fk73 eg73 sh73 rfl rfl rfl rfl rfl) rfl rfl ?_
            refine RL.nil (RC.back ?_)
            refine RC.cond rfl (fun h22 => ?_) (fun h22 => ?_)
            ·
              have hodd : ¬ y = rNode y.gen y.v y.s y.k0 y.k1 := eq_rNode.1 (by have h2 := h22; rw [eqL_cells] at h2; exact h2)
              have hres : readF A (k + 1) (met, v, true) r = (met, v, false) := readF_odd h0 hy hc hodd
              refine RC.seq ?_
              refine RC.region rfl ?_
              refine RL.ev (.field0 fo93_2 rfl) rfl rfl ?_
              refine RL.store sh4 rfl rfl rfl hb_4 (by exact Nat.le_of_ble_eq_true rfl) (by rfl) rfl (fun w23 z23 hb_4 a23 => ?_)
              have S := S.upd a23 ge_4
              have om := om.updD a23 d_om_b_4
              have ov := ov.updD a23 d_ov_b_4
              have hI := hI.updD a23 d_hI_b_4
              have szB := Nat.le_trans szB a23.size
              have hb_3 := hb_3.upd a23 n_3__4
              have hb_6 := hb_6.upd a23 n_4__6.symm
              have hb_8 := hb_8.upd a23 n_4__8.symm
              have hb_9 := hb_9.upd a23 n_4__9.symm
              have hb_4 : Has w23 b_4 (tC (met, v, false) ma mc va vc) _ := hb_4
              refine RL.nil (RC.back ?_)
              refine RC.seq ?_
              refine RC.region rfl ?_
              refine RL.ev (.loadR (tC (met, v, false) ma mc va vc) sh93 rfl hb_4.row rfl) rfl rfl ?_
              refine RL.store sh93 rfl rfl rfl hb_6 (by exact Nat.le_of_ble_eq_true rfl) (by rfl) rfl (fun w24 z24 hb_6 a24 => ?_)
              have S := S.upd a24 ge_6
              have om := om.updD a24 d_om_b_6
              have ov := ov.updD a24 d_ov_b_6
              have hI := hI.updD a24 d_hI_b_6
              have szB := Nat.le_trans szB a24.size
              have hb_3 := hb_3.upd a24 n_3__6
              have hb_4 := hb_4.upd a24 n_4__6
              have hb_8 := hb_8.upd a24 n_6__8.symm
              have hb_9 := hb_9.upd a24 n_6__9.symm
              have hb_6 : Has w24 b_6 (tC (met, v, false) ma mc va vc) _ := hb_6.now (by kernel_rfl)
              refine RL.nil (RC.back ?_)
              refine RC.done (rs := [.cell 6 93]) (vs := [_]) rfl rfl ⟨⟨_, rfl, .inr ⟨tC (met, v, false) ma mc va vc, sh93, hb_6.row, rfl⟩⟩, trivial⟩ ?_
              -- end 6
              rw [hres]
              exact ⟨ma, mc, va, vc, rfl, ⟨S, szB, om, ov, dmv, hI, dm, dv⟩⟩
            ·
              have hbr : y = rNode y.gen y.v y.s y.k0 y.k1 := Decidable.not_not.1 (fun e => by have h2 := h22; rw [eqL_cells, eq_rNode.2 e] at h2; cases h2)
              have hyo := hA.nok y (getA_nok hy)
              have hk0 : U64 y.k0 := hyo.kids _ (by simp [Node.kids])
              have hk1 : U64 y.k1 := hyo.kids _ (by simp [Node.kids])
              have hys : -9223372036854775808 ≤ y.s ∧ y.s ≤ 9223372036854775807 := hyo.s
              refine RC.skip (RC.back ?_)
              refine RC.seq ?_
              refine RC.region rfl ?_
              refine RL.ev (.field0 fo93_0 rfl) rfl rfl ?_
              refine RL.ev (.load1 sh24 rfl (hb_4.cell rfl)) rfl rfl ?_
              refine RL.ev (.as (v' := .int .i64 (met.length : Int)) (.len sl24 rfl) (by rw [List.length_map])) rfl rfl ?_
              refine RL.ev (.assign rfl) rfl rfl ?_
              refine RL.nil (RC.back ?_)
              refine RC.seq ?_
              refine RC.region rfl ?_
              refine RL.ev (.field0 fo93_0 rfl) rfl rfl ?_
              refine RL.ev (.load1 sh24 rfl (hb_4.cell rfl)) rfl rfl ?_
              refine RL.ev (.as (v' := .int .i64 (placeR r)) (.move rfl) (by rw [hay])) rfl rfl ?_
              refine RL.buildSlice1 sl24 _ ze3 rfl rfl rfl rfl rfl rfl rfl (fun b_71 w_71 e_71 z_71 hb_71 s_71 => ?_)
              have ge_71 := S.le e_71
              have n_3__71 := hb_3.ne e_71
              have n_4__71 := hb_4.ne e_71
              have n_6__71 := hb_6.ne e_71
              have n_8__71 := hb_8.ne e_71
              have n_9__71 := hb_9.ne e_71
              have d_om_b_71 := om.neNew e_71
              have d_ov_b_71 := ov.neNew e_71
              have d_hI_b_71 := hI.neNew e_71
              have S := S.trans s_71
              have om := om.sub s_71
              have ov := ov.sub s_71
              have hI := hI.sub s_71
              have szB := Nat.le_trans szB s_71.size
              have hb_3 := hb_3.sub s_71
              have hb_4 := hb_4.sub s_71
              have hb_6 := hb_6.sub s_71
              have hb_8 := hb_8.sub s_71
              have hb_9 := hb_9.sub s_71
              have sz_72 := S.size
              have ltb_3_72 := hb_3.lt
              have ltb_4_72 := hb_4.lt
              have ltb_6_72 := hb_6.lt
              have ltb_8_72 := hb_8.lt
              have ltb_9_72 := hb_9.lt
              have ltb_71_72 := hb_71.lt
              refine RL.append2 (base := E) (rows := met.map fun x => [i6 x]) (news := [_]) sl24 ze3 rfl rfl rfl rfl (.inl om) (Has.slOne hb_71) rfl (by intro r hr; rw [List.mem_singleton] at hr; subst hr; rfl) rfl (by (try simp only [List.length_map, List.length_nil, List.length_append, List.length_cons]); omega) (by (try simp only [List.length_map, List.length_nil, List.length_append, List.length_cons]); omega) (by omega) rfl rfl (fun v_72 w_72 hc_72 ho_72 ag_72 ob_72 => ?_)
              have om72 := ho_72 (.inl (by simp))
              rw [show _ ++ [_] = ((met ++ [placeR r]).map fun x => [i6 x]) from by rw [List.map_append]; rfl] at om72
              have dd_om72_ov := obDD ob_72 dmv (fun k hk => (ov.ge k hk).2)
              have dd_om72_hI := obDF ob_72 dm (fun k hk => (hI.ge k hk).2)
              have d_om72_b_3 := obNe ob_72 d_om_b_3 hb_3.lt
              have d_om72_b_4 := obNe ob_72 d_om_b_4 hb_4.lt
              have d_om72_b_6 := obNe ob_72 d_om_b_6 hb_6.lt
              have d_om72_b_8 := obNe ob_72 d_om_b_8 hb_8.lt
              have d_om72_b_9 := obNe ob_72 d_om_b_9 hb_9.lt
              have S := S.agrN ag_72 (fun k e => Nat.le_trans (by omega) e.2)
              have ov := ov.step ag_72 (fun k hk e => dmv k e.1 hk)
              have hI := hI.step ag_72 (fun k hk e => dm k e.1 hk)
              have szB := Nat.le_trans szB ag_72.size
              have hb_3 := hb_3.step ag_72 (fun e => d_om_b_3 _ e.1 rfl)
              have hb_4 := hb_4.step ag_72 (fun e => d_om_b_4 _ e.1 rfl)
              have hb_6 := hb_6.step ag_72 (fun e => d_om_b_6 _ e.1 rfl)
              have hb_8 := hb_8.step ag_72 (fun e => d_om_b_8 _ e.1 rfl)
              have hb_9 := hb_9.step ag_72 (fun e => d_om_b_9 _ e.1 rfl)
              obtain ⟨a_72, c_72, rfl, k_72⟩ := om72.form
              refine RL.ev (.field0 fo93_0 rfl) rfl rfl ?_
              refine RL.store sh24 rfl rfl rfl hb_4 (by exact Nat.le_of_ble_eq_true rfl) (by rfl) rfl (fun w25 z25 hb_4 a25 => ?_)
              have S := S.upd a25 ge_4
              have ov := ov.updD a25 d_ov_b_4
              have hI := hI.updD a25 d_hI_b_4
              have szB := Nat.le_trans szB a25.size
              have hb_3 := hb_3.upd a25 n_3__4
              have hb_6 := hb_6.upd a25 n_4__6.symm
              have hb_8 := hb_8.upd a25 n_4__8.symm
              have hb_9 := hb_9.upd a25 n_4__9.symm
              have om72 := om72.updD a25 d_om72_b_4
              have hb_4 : Has w25 b_4 (tC (met ++ [placeR r], v, true) a_72 c_72 va vc) _ := hb_4
              refine RL.nil (RC.back ?_)
              refine RC.seq ?_
              refine RC.region rfl ?_
              refine RL.ev (.loadR ([.slice na A.nodes.length nc, .slice fa A.free.length fc]) sh26 rfl hb_3.row rfl) rfl rfl ?_
              refine RL.ev (.loadR (tC (met ++ [placeR r], v, true) a_72 c_72 va vc) sh93 rfl hb_4.row rfl) rfl rfl ?_
              refine RL.ev (.field0 fo73_5 rfl) rfl rfl ?_
              refine RL.ev (.indexArr ar71 rfl rfl (by omega)) rfl rfl ?_
              refine RL.ev (.load1 sh28 rfl (hb_8.cell rfl)) rfl rfl ?_
              refine RL.call rfl ok41 (ih (met ++ [placeR r]) v true a_72 c_72 va vc y.k0 (fun k => K k ∨ k = b_3 ∨ k = b_4 ∨ k = b_6 ∨ k = b_8) (fun u => Ft K I u ∧ Has u b_3 [.slice na A.nodes.length nc, .slice fa A.free.length fc] 26 ∧ Has u b_4 (tC (met ++ [placeR r], v, true) a_72 c_72 va vc) 93 ∧ Has u b_6 [.slice none 0 0, .slice none 0 0, .bool false] 93 ∧ Has u b_8 y.cells 73) w25 hk0 (by simp only [List.length_append, List.length_singleton]; omega) (by simp only [List.length_append, List.length_singleton]; omega) (by simp only [List.length_append, List.length_singleton]; omega) ⟨S, szB, om72, ov, dd_om72_ov, hI.self.and (hb_3.ft.and (hb_4.ft.and (hb_6.ft.and hb_8.ft))), fun k h1 h2 => h2.elim (dd_om72_hI k h1) (fun h2 => h2.elim (d_om72_b_3 k h1) (fun h2 => h2.elim (d_om72_b_4 k h1) (fun h2 => h2.elim (d_om72_b_6 k h1) (d_om72_b_8 k h1)))), fun k h1 h2 => h2.elim (dv k h1) (fun h2 => h2.elim (d_ov_b_3 k h1) (fun h2 => h2.elim (d_ov_b_4 k h1) (fun h2 => h2.elim (d_ov_b_6 k h1) (d_ov_b_8 k h1))))⟩) rfl rfl ?_
              rintro vr w26 ⟨ma1, mc1, va1, vc1, hvr, hs1⟩
              obtain ⟨t1, ht1⟩ : ∃ t1, readF A k (met ++ [placeR r], v, true) y.k0 = t1 := ⟨_, rfl⟩
              have rl1 := readF_len A k (met ++ [placeR r], v, true) y.k0
              rw [ht1] at hvr hs1 rl1
              obtain ⟨m1, v1, o1⟩ := t1
              obtain ⟨S, szB, om, ov, dmv, hI2, dm2, dv2⟩ := hs1
              simp only [List.length_append, List.length_singleton] at om ov dmv dm2 dv2 rl1
              obtain ⟨hI, hb_3, hb_4, hb_6, hb_8⟩ := hI2.now
              subst hvr
              have q1m := fun k h1 h2 => dm2 k h1 (.inl h2)
              have q1v := fun k h1 h2 => dv2 k h1 (.inl h2)
              have q3m := fun k h1 h2 => dm2 k h1 (.inr (.inl h2))
              have q3v := fun k h1 h2 => dv2 k h1 (.inr (.inl h2))
              have q4m := fun k h1 h2 => dm2 k h1 (.inr (.inr (.inl h2)))
              have q4v := fun k h1 h2 => dv2 k h1 (.inr (.inr (.inl h2)))
              have q6m := fun k h1 h2 => dm2 k h1 (.inr (.inr (.inr (.inl h2))))
              have q6v := fun k h1 h2 => dv2 k h1 (.inr (.inr (.inr (.inl h2))))
              have q8m := fun k h1 h2 => dm2 k h1 (.inr (.inr (.inr (.inr h2))))
              have q8v := fun k h1 h2 => dv2 k h1 (.inr (.inr (.inr (.inr h2))))
              refine RL.store sh93 rfl rfl rfl hb_4 (by exact Nat.le_of_ble_eq_true rfl) (by rfl) rfl (fun w28 z28 hb_4 a28 => ?_)
              have S := S.upd a28 ge_4
              have hI := hI.updD a28 d_hI_b_4
              have szB := Nat.le_trans szB a28.size
              have hb_3 := hb_3.upd a28 n_3__4
              have hb_6 := hb_6.upd a28 n_4__6.symm
              have hb_8 := hb_8.upd a28 n_4__8.symm
              have om := om.updD a28 q4m
              have ov := ov.updD a28 q4v
              have hb_4 : Has w28 b_4 (tC (m1, v1, o1) ma1 mc1 va1 vc1) _ := hb_4.now (by kernel_rfl)
              refine RL.nil (RC.back ?_)
              refine RC.seq ?_
              refine RC.region rfl ?_
              refine RL.ev (.field0 fo93_1 rfl) rfl rfl ?_
              refine RL.ev (.load1 sh22 rfl (hb_4.cell rfl)) rfl rfl ?_
              refine RL.ev (.field0 fo73_3 rfl) rfl rfl ?_
              refine RL.ev (.load1 sh2 rfl (hb_8.cell rfl)) rfl rfl ?_
              refine RL.buildSlice1 sl22 _ ze2 rfl rfl rfl rfl rfl rfl rfl (fun b_84 w_84 e_84 z_84 hb_84 s_84 => ?_)
              have ge_84 := S.le e_84
              have n_3__84 := hb_3.ne e_84
              have n_4__84 := hb_4.ne e_84
              have n_6__84 := hb_6.ne e_84
              have n_8__84 := hb_8.ne e_84
              have d_hI_b_84 := hI.neNew e_84
              have d_om_b_84 := om.neNew e_84
              have d_ov_b_84 := ov.neNew e_84
              have S := S.trans s_84
              have hI := hI.sub s_84
              have szB := Nat.le_trans szB s_84.size
              have hb_3 := hb_3.sub s_84
              have hb_4 := hb_4.sub s_84
              have hb_6 := hb_6.sub s_84
              have hb_8 := hb_8.sub s_84
              have om := om.sub s_84
              have ov := ov.sub s_84
              have sz_85 := S.size
              have ltb_3_85 := hb_3.lt
              have ltb_4_85 := hb_4.lt
              have ltb_6_85 := hb_6.lt
              have ltb_8_85 := hb_8.lt
              have ltb_84_85 := hb_84.lt
              refine RL.append2 (base := E) (rows := v1.map fun x => [i6 x]) (news := [_]) sl22 ze2 rfl rfl rfl rfl (.inl ov) (Has.slOne hb_84) rfl (by intro r hr; rw [List.mem_singleton] at hr; subst hr; rfl) rfl (by (try simp only [List.length_map, List.length_nil, List.length_append, List.length_cons]); omega) (by (try simp only [List.length_map, List.length_nil, List.length_append, List.length_cons]); omega) (by omega) rfl rfl (fun v_85 w_85 hc_85 ho_85 ag_85 ob_85 => ?_)
              have ov85 := ho_85 (.inl (by simp))
              rw [show _ ++ [_] = ((v1 ++ [y.v]).map fun x => [i6 x]) from by rw [List.map_append]; rfl] at ov85
              have dd_ov85_hI := obDF ob_85 q1v (fun k hk => (hI.ge k hk).2)
              have d_ov85_b_3 := obNe ob_85 q3v hb_3.lt
              have d_ov85_b_4 := obNe ob_85 q4v hb_4.lt
              have d_ov85_b_6 := obNe ob_85 q6v hb_6.lt
              have d_ov85_b_8 := obNe ob_85 q8v hb_8.lt
              have dd_ov85_om := obDD ob_85 (fun k h1 h2 => dmv k h2 h1) (fun k hk => (om.ge k hk).2)
              have S := S.agrN ag_85 (fun k e => Nat.le_trans (by omega) e.2)
              have hI := hI.step ag_85 (fun k hk e => q1v k e.1 hk)
              have szB := Nat.le_trans szB ag_85.size
              have hb_3 := hb_3.step ag_85 (fun e => q3v _ e.1 rfl)
              have hb_4 := hb_4.step ag_85 (fun e => q4v _ e.1 rfl)
              have hb_6 := hb_6.step ag_85 (fun e => q6v _ e.1 rfl)
              have hb_8 := hb_8.step ag_85 (fun e => q8v _ e.1 rfl)
              have om := om.step ag_85 (fun k hk e => (fun k h1 h2 => dmv k h2 h1) k e.1 hk)
              obtain ⟨a_85, c_85, rfl, k_85⟩ := ov85.form
              refine RL.ev (.field0 fo93_1 rfl) rfl rfl ?_
              refine RL.store sh22 rfl rfl rfl hb_4 (by exact Nat.le_of_ble_eq_true rfl) (by rfl) rfl (fun w29 z29 hb_4 a29 => ?_)
              have S := S.upd a29 ge_4
              have hI := hI.updD a29 d_hI_b_4
              have szB := Nat.le_trans szB a29.size
              have hb_3 := hb_3.upd a29 n_3__4
              have hb_6 := hb_6.upd a29 n_4__6.symm
              have hb_8 := hb_8.upd a29 n_4__8.symm
              have om := om.updD a29 q4m
              have ov85 := ov85.updD a29 d_ov85_b_4
              have hb_4 : Has w29 b_4 (tC (m1, v1 ++ [y.v], o1) ma1 mc1 a_85 c_85) _ := hb_4
              refine RL.nil (RC.back ?_)
              refine RC.seq ?_
              refine RC.region rfl ?_
              refine RL.ev (.loadR ([.slice na A.nodes.length nc, .slice fa A.free.length fc]) sh26 rfl hb_3.row rfl) rfl rfl ?_
              refine RL.ev (.loadR (tC (m1, v1 ++ [y.v], o1) ma1 mc1 a_85 c_85) sh93 rfl hb_4.row rfl) rfl rfl ?_
              refine RL.ev (.field0 fo73_5 rfl) rfl rfl ?_
              refine RL.ev (.indexArr ar71 rfl rfl (by omega)) rfl rfl ?_
              refine RL.ev (.load1 sh28 rfl (hb_8.cell rfl)) rfl rfl ?_
              refine RL.call rfl ok41 (ih m1 (v1 ++ [y.v]) o1 ma1 mc1 a_85 c_85 y.k1 (fun k => K k ∨ k = b_3 ∨ k = b_4 ∨ k = b_6 ∨ k = b_8) (fun u => Ft K I u ∧ Has u b_3 [.slice na A.nodes.length nc, .slice fa A.free.length fc] 26 ∧ Has u b_4 (tC (m1, v1 ++ [y.v], o1) ma1 mc1 a_85 c_85) 93 ∧ Has u b_6 [.slice none 0 0, .slice none 0 0, .bool false] 93 ∧ Has u b_8 y.cells 73) w29 hk1 (by omega) (by omega) (by simp only [List.length_append, List.length_singleton]; omega) ⟨S, szB, om, ov85, fun k h1 h2 => dd_ov85_om k h2 h1, hI.self.and (hb_3.ft.and (hb_4.ft.and (hb_6.ft.and hb_8.ft))), dm2, fun k h1 h2 => h2.elim (dd_ov85_hI k h1) (fun h2 => h2.elim (d_ov85_b_3 k h1) (fun h2 => h2.elim (d_ov85_b_4 k h1) (fun h2 => h2.elim (d_ov85_b_6 k h1) (d_ov85_b_8 k h1))))⟩) rfl rfl ?_
              rintro vr w30 ⟨ma3, mc3, va3, vc3, hvr, hs3⟩
              obtain ⟨t3, ht3⟩ : ∃ t3, readF A k (m1, v1 ++ [y.v], o1) y.k1 = t3 := ⟨_, rfl⟩
              have rl3 := readF_len A k (m1, v1 ++ [y.v], o1) y.k1
              have hgo := readF_go h0 hy hc hbr ht1 ht3
              rw [ht3] at hvr hs3 rl3
              obtain ⟨m3, v3, o3⟩ := t3
              obtain ⟨S, szB, om, ov, dmv, hI2, dm3, dv3⟩ := hs3
              simp only [List.length_append, List.length_singleton] at om ov dmv dm3 dv3 rl3 hgo
              obtain ⟨hI, hb_3, hb_4, hb_6, hb_8⟩ := hI2.now
              subst hvr
              have q1m := fun k h1 h2 => dm3 k h1 (.inl h2)
              have q1v := fun k h1 h2 => dv3 k h1 (.inl h2)
              have q4m := fun k h1 h2 => dm3 k h1 (.inr (.inr (.inl h2)))
              have q4v := fun k h1 h2 => dv3 k h1 (.inr (.inr (.inl h2)))
              have q6m := fun k h1 h2 => dm3 k h1 (.inr (.inr (.inr (.inl h2))))
              have q6v := fun k h1 h2 => dv3 k h1 (.inr (.inr (.inr (.inl h2))))
              refine RL.store sh93 rfl rfl rfl hb_4 (by exact Nat.le_of_ble_eq_true rfl) (by rfl) rfl (fun w32 z32 hb_4 a32 => ?_)
              have S := S.upd a32 ge_4
              have hI := hI.updD a32 d_hI_b_4
              have szB := Nat.le_trans szB a32.size
              have hb_3 := hb_3.upd a32 n_3__4
              have hb_6 := hb_6.upd a32 n_4__6.symm
              have hb_8 := hb_8.upd a32 n_4__8.symm
              have om := om.updD a32 q4m
              have ov := ov.updD a32 q4v
              have hb_4 : Has w32 b_4 (tC (m3, v3, o3) ma3 mc3 va3 vc3) _ := hb_4.now (by kernel_rfl)
              refine RL.nil (RC.back ?_)
              refine RC.seq ?_
              refine RC.seq ?_
              refine RC.region rfl ?_
              refine RL.ev (.field0 fo93_0 rfl) rfl rfl ?_
              refine RL.ev (.load1 sh24 rfl (hb_4.cell rfl)) rfl rfl ?_
              refine RL.ev (.as (v' := .int .i64 (m3.length : Int)) (.len sl24 rfl) (by rw [List.length_map])) rfl rfl ?_
              refine RL.ev (.move rfl) rfl rfl ?_
              refine RL.ev (.as (.bin rfl rfl rfl) (wi64 (y := (m3.length : Int) - met.length) (by rfl) (by omega))) rfl rfl ?_
              refine RL.ev (.field0 fo73_4 rfl) rfl rfl ?_
              refine RL.ev (.load1 sh2 rfl (hb_8.cell rfl)) rfl rfl ?_
              refine RL.ev (.bin rfl rfl rfl) rfl rfl ?_
              refine RL.nil (RC.back ?_)
              refine RC.cond_dec rfl (fun h33 => ?_) (fun h33 => ?_)
              ·
                have hres : readF A (k + 1) (met, v, true) r = (m3, v3, false) := (by rw [hgo, if_pos h33])
                refine RC.region rfl ?_
                refine RL.ev (.field0 fo93_2 rfl) rfl rfl ?_
                refine RL.store sh4 rfl rfl rfl hb_4 (by exact Nat.le_of_ble_eq_true rfl) (by rfl) rfl (fun w34 z34 hb_4 a34 => ?_)
                have S := S.upd a34 ge_4
                have hI := hI.updD a34 d_hI_b_4
                have szB := Nat.le_trans szB a34.size
                have hb_3 := hb_3.upd a34 n_3__4
                have hb_6 := hb_6.upd a34 n_4__6.symm
                have hb_8 := hb_8.upd a34 n_4__8.symm
                have om := om.updD a34 q4m
                have ov := ov.updD a34 q4v
                have hb_4 : Has w34 b_4 (tC (m3, v3, false) ma3 mc3 va3 vc3) _ := hb_4
                refine RL.nil (RC.back ?_)
                refine RC.seq ?_
                refine RC.region rfl ?_
                refine RL.ev (.loadR (tC (m3, v3, false) ma3 mc3 va3 vc3) sh93 rfl hb_4.row rfl) rfl rfl ?_
                refine RL.store sh93 rfl rfl rfl hb_6 (by exact Nat.le_of_ble_eq_true rfl) (by rfl) rfl (fun w35 z35 hb_6 a35 => ?_)
                have S := S.upd a35 ge_6
                have hI := hI.updD a35 d_hI_b_6
                have szB := Nat.le_trans szB a35.size
                have hb_3 := hb_3.upd a35 n_3__6
                have hb_4 := hb_4.upd a35 n_4__6
                have hb_8 := hb_8.upd a35 n_6__8.symm
                have om := om.updD a35 q6m
                have ov := ov.updD a35 q6v
                have hb_6 : Has w35 b_6 (tC (m3, v3, false) ma3 mc3 va3 vc3) _ := hb_6.now (by kernel_rfl)
                refine RL.nil (RC.back ?_)
                refine RC.done (rs := [.cell 6 93]) (vs := [_]) rfl rfl ⟨⟨_, rfl, .inr ⟨tC (m3, v3, false) ma3 mc3 va3 vc3, sh93, hb_6.row, rfl⟩⟩, trivial⟩ ?_
                -- end 7
                rw [hres]
                exact ⟨ma3, mc3, va3, vc3, rfl, ⟨S, szB, om, ov, dmv, hI, q1m, q1v⟩⟩
              ·
                have hres : readF A (k + 1) (met, v, true) r = (m3, v3, o3) := (by rw [hgo, if_neg h33])
                refine RC.skip (RC.back ?_)
                refine RC.seq ?_
                refine RC.region rfl ?_
                refine RL.ev (.loadR (tC (m3, v3, o3) ma3 mc3 va3 vc3) sh93 rfl hb_4.row rfl) rfl rfl ?_
                refine RL.store sh93 rfl rfl rfl hb_6 (by exact Nat.le_of_ble_eq_true rfl) (by rfl) rfl (fun w36 z36 hb_6 a36 => ?_)
                have S := S.upd a36 ge_6
                have hI := hI.updD a36 d_hI_b_6
                have szB := Nat.le_trans szB a36.size
                have hb_3 := hb_3.upd a36 n_3__6
                have hb_4 := hb_4.upd a36 n_4__6
                have hb_8 := hb_8.upd a36 n_6__8.symm
                have om := om.updD a36 q6m
                have ov := ov.updD a36 q6v
                have hb_6 : Has w36 b_6 (tC (m3, v3, o3) ma3 mc3 va3 vc3) _ := hb_6.now (by kernel_rfl)
                refine RL.nil (RC.back ?_)
                refine RC.done (rs := [.cell 6 93]) (vs := [_]) rfl rfl ⟨⟨_, rfl, .inr ⟨tC (m3, v3, o3) ma3 mc3 va3 vc3, sh93, hb_6.row, rfl⟩⟩, trivial⟩ ?_
                -- end 8
                rw [hres]
                exact ⟨ma3, mc3, va3, vc3, rfl, ⟨S, szB, om, ov, dmv, hI, q1m, q1v⟩⟩
end Go.Proofs.Ytefakjhfcgjhgaa
