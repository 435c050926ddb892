/-
  The statement SpanKeeps.
-/
import Derived.Test.YtdmaogopibljoaaSpanKeepP
import Derived.Test.YtdmaogopibljoaaTreapMk
set_option linter.unusedVariables false
set_option linter.unusedSimpArgs false
namespace Go.Proofs.Ytdmaogopibljoaa
open Go Go.XL

theorem owNw {w : World} {e : TypeId} {sz b : Nat} {v : Value} {rows : List (List Value)} {w' : World} (h : Ows w.heap.size w' e sz v rows) (hb : b < w.heap.size) : ∀ k, ob v = some k → k ≠ b := fun k hk e => by have := (h.ge k hk).1; omega
theorem obNil {k : Nat} {p : Prop} (h : ob (.slice none 0 0) = some k) : p := by simp [ob, Value.ownBlock] at h
theorem fil_step {p : It → Bool} {l : List It} {i : Nat} {x : It} (h : l[i]? = some x) : (l.take (i + 1)).filter p = (l.take i).filter p ++ (if p x then [x] else []) := by
  rw [List.take_add_one, h]
  simp only [Option.toList, List.filter_append, List.filter_cons, List.filter_nil]
theorem inR_step {lo hi : Int} {l : List It} {i : Nat} {x : It} (h : l[i]? = some x) : inR lo hi (l.take (i + 1)) = inR lo hi (l.take i) ++ (if lo ≤ x.k ∧ x.k ≤ hi then [x] else []) := by
  unfold inR
  rw [fil_step h]
  by_cases q : lo ≤ x.k ∧ x.k ≤ hi <;> simp [q]
theorem c_within (l : List It) (a : Option Addr) (c m : Nat) (hm : m = l.length) (lo hi : Int) (w : World) (hl : Sl w a 2 (l.map It.cells)) (hb : l.length ≤ 1000000) :
    FC Try.prog 17 [.slice a m c, .int .i64 lo, .int .i64 hi] w (fun u w' => ∃ a' c', u = .slice a' ((inR lo hi l).map It.cells).length c' ∧ Ows w.heap.size w' 42 2 (.slice a' ((inR lo hi l).map It.cells).length c') ((inR lo hi l).map It.cells) ∧ Sub w w') := by
  subst hm
  refine FC.intro Try.func17 rfl Try.ntmps17 rfl ?_
  have S := Sub.refl w
  refine RC.seq ?_
  refine RC.region rfl ?_
  refine RL.ev (.assign rfl) rfl rfl ?_
  refine RL.nil (RC.back ?_)
  refine RC.seq ?_
  refine RC.region rfl ?_
  refine RL.ev (.assign rfl) rfl rfl ?_
  refine RL.nil (RC.back ?_)
  refine RC.seq ?_
  refine RC.seq ?_
  refine RC.region rfl ?_
  refine RL.ev (.move rfl) rfl rfl ?_
  refine RL.ev (.len sl23 rfl) rfl rfl ?_
  refine RL.ev (.move rfl) rfl rfl ?_
  refine RL.nil (RC.back ?_)
  refine RC.block ?_
  refine RC.loop (α := Nat × Option Addr × Nat × Nat) (fun x => [(1, .int .i64 lo), (2, .int .i64 hi), (7, .slice x.2.1 x.2.2.1 x.2.2.2), (10, .slice a l.length c), (11, .int .i64 (l.length : Int)), (12, .int .i64 (x.1 : Int))]) (fun x w1 => x.1 ≤ l.length ∧ Ows w.heap.size w1 42 2 (.slice x.2.1 x.2.2.1 x.2.2.2) ((inR lo hi (l.take x.1)).map It.cells) ∧ Sub w w1) (fun x => l.length - x.1) (0, none, 0, 0) (keep_of (by repeat (first | exact trivial | refine And.intro rfl ?_))) (⟨Nat.zero_le _, Ows.nil _ _ _ _, S⟩) (fun x w1 hJ => ?_)
  obtain ⟨i, ao, mo, co⟩ := x; obtain ⟨hi', o, S⟩ := hJ; simp only [] at hi' o; obtain rfl := o.sl.2; have szB := S.size; have hdl : (inR lo hi (l.take i)).length ≤ i := Nat.le_trans (List.length_filter_le _ _) (by rw [List.length_take]; omega)
  refine RC.seq ?_
  refine RC.region rfl ?_
  refine RL.ev (.bin rfl rfl rfl) rfl rfl ?_
  refine RL.nil (RC.back ?_)
  refine RC.seq ?_
  refine RC.cond_dec rfl (fun h2 => ?_) (fun h2 => ?_)
  ·
    obtain ⟨x, hx⟩ := getSome (l := l) (i := i) (by omega)
    have hst := inR_step (lo := lo) (hi := hi) hx
    refine RC.skip (RC.back ?_)
    refine RC.seq ?_
    refine RC.block ?_
    refine RC.seq ?_
    refine RC.region rfl ?_
    refine RL.ev (.indexS sl23 rfl rfl (by omega) (hl.is (i := 0) (by simp only [List.length_map]; omega))) rfl rfl ?_
    refine RL.ev (.loadR (x.cells) sh42 rfl ((hl.sub S).rowAt (enc := It.cells) (i := i) hx) rfl) rfl rfl ?_
    refine RL.alloc ze42 rfl rfl (fun b_9 w_9 e_9 z_9 hb_9 s_9 => ?_)
    have ge_9 := S.le e_9
    have d_o_b_9 := o.neNew e_9
    have S := S.trans s_9
    have o := o.sub s_9
    have szB := Nat.le_trans szB s_9.size
    refine RL.store sh42 rfl rfl rfl hb_9 (by exact Nat.le_of_ble_eq_true rfl) (by rfl) rfl (fun w3 z3 hb_9 a3 => ?_)
    have S := S.upd a3 ge_9
    have o := o.updD a3 d_o_b_9
    have szB := Nat.le_trans szB a3.size
    have hb_9 : Has w3 b_9 (x.cells) _ := hb_9.now (by kernel_rfl)
    refine RL.nil (RC.back ?_)
    refine RC.seq ?_
    refine RC.region rfl ?_
    refine RL.ev (.field0 fo42_0 rfl) rfl rfl ?_
    refine RL.ev (.load1 sh2 rfl (hb_9.cell rfl)) rfl rfl ?_
    refine RL.ev (.move rfl) rfl rfl ?_
    refine RL.ev (.bin rfl rfl rfl) rfl rfl ?_
    refine RL.ev (.move rfl) rfl rfl ?_
    refine RL.split 20 rfl (fun h4 => ?_) (fun h4 => ?_)
    ·
      have h20 := h4
      refine RL.ev (.field0 fo42_0 rfl) rfl rfl ?_
      refine RL.ev (.load1 sh2 rfl (hb_9.cell rfl)) rfl rfl ?_
      refine RL.ev (.move rfl) rfl rfl ?_
      refine RL.ev (.bin rfl rfl rfl) rfl rfl ?_
      refine RL.ev (.pick_t rfl rfl) rfl rfl ?_
      refine RL.nil (RC.back ?_)
      refine RC.cond_dec rfl (fun h5 => ?_) (fun h5 => ?_)
      ·
        rw [if_pos ⟨h20, h5⟩] at hst
        refine RC.region rfl ?_
        refine RL.ev (.move rfl) rfl rfl ?_
        refine RL.ev (.loadR (x.cells) sh42 rfl hb_9.row rfl) rfl rfl ?_
        refine RL.buildSlice1 sl23 _ ze42 rfl rfl rfl rfl rfl rfl rfl (fun b_28 w_28 e_28 z_28 hb_28 s_28 => ?_)
        have ge_28 := S.le e_28
        have n_9__28 := hb_9.ne e_28
        have d_o_b_28 := o.neNew e_28
        have S := S.trans s_28
        have o := o.sub s_28
        have szB := Nat.le_trans szB s_28.size
        have hb_9 := hb_9.sub s_28
        have sz_29 := S.size
        have ltb_9_29 := hb_9.lt
        have ltb_28_29 := hb_28.lt
        refine RL.append2 (base := w.heap.size) (rows := (inR lo hi (l.take i)).map It.cells) (news := [_]) sl23 ze42 rfl rfl rfl rfl (.inl o) (Has.slOne hb_28) rfl (by intro r hr; rw [List.mem_singleton] at hr; subst hr; rfl) rfl (by (try simp only [List.length_map, List.length_nil, List.length_append, List.length_cons]); omega) (by (try simp only [List.length_map, List.length_nil, List.length_append, List.length_cons]); omega) (by omega) rfl rfl (fun v_29 w_29 hc_29 ho_29 ag_29 ob_29 => ?_)
        have o29 := ho_29 (.inl (by simp))
        rw [show _ ++ [_] = ((inR lo hi (l.take i) ++ [x]).map It.cells) from by rw [List.map_append]; rfl] at o29
        have d_o29_b_9 := obNe ob_29 d_o_b_9 hb_9.lt
        have S := S.agrN ag_29 (fun k e => Nat.le_trans (by omega) e.2)
        have szB := Nat.le_trans szB ag_29.size
        have hb_9 := hb_9.step ag_29 (fun e => d_o_b_9 _ e.1 rfl)
        obtain ⟨a_29, c_29, rfl, k_29⟩ := o29.form
        refine RL.ev (.assign rfl) rfl rfl ?_
        refine RL.nil (RC.back ?_)
        refine RC.region rfl ?_
        refine RL.ev (.as (.bin rfl rfl rfl) (wi64 (y := ((i + 1 : Nat) : Int)) (by omega) (by omega))) rfl rfl ?_
        refine RL.ev (.move rfl) rfl rfl ?_
        exact RL.nil (fun a ka => ⟨(i + 1, a_29, _, c_29), ⟨by omega, by show Ows _ _ _ _ _ ((inR lo hi (l.take (i + 1))).map It.cells); rw [hst]; exact o29, S⟩, by omega, ka.keep (keep_of (by repeat (first | exact trivial | refine And.intro rfl ?_)))⟩)
      ·
        rw [if_neg (fun h => h5 h.2), List.append_nil] at hst
        refine RC.skip (RC.back ?_)
        refine RC.region rfl ?_
        refine RL.ev (.as (.bin rfl rfl rfl) (wi64 (y := ((i + 1 : Nat) : Int)) (by omega) (by omega))) rfl rfl ?_
        refine RL.ev (.move rfl) rfl rfl ?_
        exact RL.nil (fun a ka => ⟨(i + 1, ao, _, co), ⟨by omega, by show Ows _ _ _ _ _ ((inR lo hi (l.take (i + 1))).map It.cells); rw [hst]; exact o, S⟩, by omega, ka.keep (keep_of (by repeat (first | exact trivial | refine And.intro rfl ?_)))⟩)
    ·
      have h20 := h4
      rw [if_neg (fun h => h20 h.1), List.append_nil] at hst
      refine RL.off rfl rfl ?_
      refine RL.off rfl rfl ?_
      refine RL.off rfl rfl ?_
      refine RL.off rfl rfl ?_
      refine RL.ev (.pick_f rfl rfl) rfl rfl ?_
      refine RL.nil (RC.back ?_)
      refine RC.cond_f rfl ?_
      refine RC.skip (RC.back ?_)
      refine RC.region rfl ?_
      refine RL.ev (.as (.bin rfl rfl rfl) (wi64 (y := ((i + 1 : Nat) : Int)) (by omega) (by omega))) rfl rfl ?_
      refine RL.ev (.move rfl) rfl rfl ?_
      exact RL.nil (fun a ka => ⟨(i + 1, ao, _, co), ⟨by omega, by show Ows _ _ _ _ _ ((inR lo hi (l.take (i + 1))).map It.cells); rw [hst]; exact o, S⟩, by omega, ka.keep (keep_of (by repeat (first | exact trivial | refine And.intro rfl ?_)))⟩)
  ·
    obtain rfl : i = l.length := (by omega)
    rw [List.take_length] at o
    refine RC.exit rfl (RC.back ?_)
    refine RC.seq ?_
    refine RC.region rfl ?_
    refine RL.ev (.move rfl) rfl rfl ?_
    refine RL.ev (.assign rfl) rfl rfl ?_
    refine RL.nil (RC.back ?_)
    refine RC.done (rs := [.tmp 6]) (vs := [_]) rfl rfl ⟨rfl, trivial⟩ ?_
    -- end 1
    exact ⟨ao, co, by rw [List.take_length]; rfl, o, S⟩
theorem newPut {A B : Ar} {r key v r' e : Int} {L : List It} (h : PutP A r key v B r' e) (hm : isMap A r) (hL : IsT A r L) (hk : -1073741824 ≤ key ∧ key ≤ 1073741824) (hl : L.length < 200) (hf : L.length + 1 ≤ A.free.length) :
    e = 0 ∧ Ext A B ∧ AOk B ∧ A.free.length ≤ B.free.length + (L.length + 1) ∧ IsT B r' (putL L key v) := by
  rcases h.2.2 L hm hL with ⟨h1, _⟩ | ⟨_, _, h1⟩ | ⟨_, h1, h2, h3, h4, h5⟩
  · rcases h1 with h1 | h1 | h1 <;> omega
  · omega
  · exact ⟨h1, h2, h3, h4, h5⟩
def sucK (i : Int) : Int := i + 1
def m40 (x : Int) : Int := x % 40
/-- the cursor behind a step, and what was got -/
structure KG (r1 b a : Int) (R G : List It) (i : Nat) (c : Cu) : Prop where
  r : c.r = r1
  hi : c.hi = b
  fin : c.fin = true → G = inR a b R
  go : c.fin = false → G.length = i ∧ G ++ inR c.lo b R = inR a b R ∧ I64 c.lo
theorem kg_step {r1 b a lo : Int} {R G : List It} {i : Nat} (hs : Srt R) (hR : ∀ z ∈ R, 0 ≤ z.k ∧ z.k < 40 ∧ 1 ≤ z.v) (hG : G.length = i) (hd : G ++ inR lo b R = inR a b R) {c2 : Cu} {x2 : It} (h : (c2, x2) = stepC R ⟨r1, lo, b, false⟩) :
    (¬ x2.v = 0 → KG r1 b a R (G ++ [x2]) (i + 1) c2) ∧ (x2.v = 0 → KG r1 b a R G (i + 1) c2) := by
  have h1 : c2 = (stepC R ⟨r1, lo, b, false⟩).1 := by rw [← h]
  have h2 : x2 = (stepC R ⟨r1, lo, b, false⟩).2 := by rw [← h]
  rcases step_next hs ⟨r1, lo, b, false⟩ with ⟨q1, q2⟩ | ⟨z, zs, q1, q2, q3⟩
  · rw [q2] at h1 h2
    simp only [] at h1 h2 q1
    subst h1 h2
    rw [q1, List.append_nil] at hd
    exact ⟨fun h => absurd rfl h, fun _ => ⟨rfl, rfl, fun _ => hd, fun h => by cases h⟩⟩
  · simp only [] at q1
    have hz : z ∈ R := inR_mem (by rw [q1]; exact List.mem_cons_self)
    have hzr := hR z hz
    rw [q2] at h2
    subst h2
    rw [q1] at hd
    refine ⟨fun _ => ?_, fun h => by omega⟩
    rcases q3 with ⟨q3, rfl⟩ | ⟨q3, q4⟩
    · rw [q3] at h1; subst h1
      exact ⟨rfl, rfl, fun _ => hd, fun h => by cases h⟩
    · rw [q3] at h1; subst h1
      refine ⟨rfl, rfl, (fun h => by cases h), fun _ => ⟨by simp [hG], ?_, by unfold I64; show _ ≤ x2.k + 1 ∧ x2.k + 1 ≤ _; omega⟩⟩
      simp only [] at q4 ⊢
      rw [q4, ← hd]; simp
set_option maxHeartbeats 4000000 in
theorem law_SpanKeeps (w : World) (l : List Int) (pa : Option Addr) (pc : Nat) (hlc : l.length ≤ pc) (hcm : pc ≤ maxLen) (hs : Sl w pa 1 (l.map fun x => [i6 x])) (hli : ∀ x ∈ l, I64 x) (m : List Int) (qa : Option Addr) (qc : Nat) (hmc : m.length ≤ qc) (hqm : qc ≤ maxLen) (hms : Sl w qa 1 (m.map fun x => [i6 x])) (hmi : ∀ x ∈ m, I64 x)
    (a : Int) (wa : (Lit.int .i64 a).wf = true) (b : Int) (wb : (Lit.int .i64 b).wf = true) :
    FC Try.prog 6 [.slice pa l.length pc, .slice qa m.length qc, .int .i64 a, .int .i64 b] w (Val (.bool true) w) := by
  have hll : l.length ≤ 9223372036854775807 := Nat.le_trans hlc (Nat.le_trans hcm (by decide))
  have hml : m.length ≤ 9223372036854775807 := Nat.le_trans hmc (Nat.le_trans hqm (by decide))
  have ha : I64 a := wfI wa
  have hb : I64 b := wfI wb
  refine FC.intro Try.func6 rfl Try.ntmps6 rfl ?_
  have S := Sub.refl w
  refine RC.seq ?_
  refine RC.region rfl ?_
  refine RL.ev (.assign rfl) rfl rfl ?_
  refine RL.nil (RC.back ?_)
  refine RC.seq ?_
  refine RC.region rfl ?_
  refine RL.ev (.assign rfl) rfl rfl ?_
  refine RL.nil (RC.back ?_)
  refine RC.seq ?_
  refine RC.seq ?_
  refine RC.region rfl ?_
  refine RL.ev (.move rfl) rfl rfl ?_
  refine RL.ev (.len sl22 rfl) rfl rfl ?_
  refine RL.ev (.move rfl) rfl rfl ?_
  refine RL.nil (RC.back ?_)
  refine RC.block ?_
  refine RC.loop (α := Nat × Option Addr × Nat × Nat) (fun x => [(1, .slice qa m.length qc), (2, .int .i64 a), (3, .int .i64 b), (9, .slice x.2.1 x.2.2.1 x.2.2.2), (25, .slice pa l.length pc), (26, .int .i64 (l.length : Int)), (27, .int .i64 (x.1 : Int))]) (fun x w1 => (x.1 ≤ l.length ∧ x.2.2.1 = (rowN m40 sucK 20 l x.1).length ∧ (rowN m40 sucK 20 l x.1).length ≤ x.2.2.2) ∧ Sl w1 x.2.1 2 ((rowN m40 sucK 20 l x.1).map It.cells) ∧ Sub w w1) (fun x => l.length - x.1) (0, none, 0, 0) (keep_of (by repeat (first | exact trivial | refine And.intro rfl ?_))) (⟨⟨Nat.zero_le _, rfl, Nat.zero_le _⟩, Sl.nil _ _ _, S⟩) (fun x w1 hJ => ?_)
  obtain ⟨i, ra, rm, rc⟩ := x; obtain ⟨⟨hi, hm, hc⟩, hr, S⟩ := hJ; simp only [] at hi hm hc hr; have hrl := rowN_len m40 sucK 20 l i
  refine RC.seq ?_
  refine RC.region rfl ?_
  refine RL.ev (.bin rfl rfl rfl) rfl rfl ?_
  refine RL.nil (RC.back ?_)
  refine RC.seq ?_
  refine RC.cond_dec rfl (fun h2 => ?_) (fun h2 => ?_)
  ·
    obtain ⟨x, hx⟩ := getSome (l := l) (i := i) (by omega)
    have hxi : -9223372036854775808 ≤ x ∧ x ≤ 9223372036854775807 := hli x (List.mem_of_getElem? hx)
    have nmx := norm_mod x 40 (by decide)
    refine RC.skip (RC.back ?_)
    refine RC.seq ?_
    refine RC.block ?_
    refine RC.seq ?_
    refine RC.region rfl ?_
    refine RL.ev (.move rfl) rfl rfl ?_
    refine RL.ev (.indexS sl22 rfl rfl (by omega) (hs.is (i := 0) (by simp only [List.length_map]; omega))) rfl rfl ?_
    refine RL.ev (.load1 sh2 rfl ((hs.sub S).one (enc := i6) (i := i) hx)) rfl rfl ?_
    refine RL.ev (.assign rfl) rfl rfl ?_
    refine RL.ev (.assign rfl) rfl rfl ?_
    refine RL.nil (RC.back ?_)
    refine RC.seq ?_
    refine RC.region rfl ?_
    refine RL.ev (.move rfl) rfl rfl ?_
    refine RL.ev (.bin rfl rfl rfl) rfl rfl ?_
    refine RL.nil (RC.back ?_)
    refine RC.cond_dec rfl (fun h3 => ?_) (fun h3 => ?_)
    ·
      have hlt : i < 20 := (by omega)
      refine RC.region rfl ?_
      refine RL.ev (.move rfl) rfl rfl ?_
      refine RL.ev (.move rfl) rfl rfl ?_
      refine RL.ev (.rem rfl rfl (by decide)) rfl rfl ?_
      refine RL.ev (.as (.bin rfl rfl rfl) (wi64 (y := x.tmod 40 + 40) (by rfl) (by omega))) rfl rfl ?_
      refine RL.ev (.as (v' := .int .i64 (x % 40)) (.rem rfl rfl (by decide)) (by rw [nmx.2.2])) rfl rfl ?_
      refine RL.ev (.move rfl) rfl rfl ?_
      refine RL.ev (.as (.bin rfl rfl rfl) (wi64 (y := ((i : Int) + 1)) (by rfl) (by omega))) rfl rfl ?_
      refine RL.call rfl ok7 (c_refPut (rowN m40 sucK 20 l i) ra rc rm hm (x % 40) ((i : Int) + 1) w1 (hr) (by omega)) rfl rfl ?_
      rintro vr w4 ⟨a1, c1, hvr, o1, s5⟩
      have S := S.trans s5
      rw [← show rowN m40 sucK 20 l (i + 1) = putR (rowN m40 sucK 20 l i) (x % 40) ((i : Int) + 1) from rowN_put hx hlt] at hvr o1
      subst hvr
      have hc1 : (rowN m40 sucK 20 l (i + 1)).length ≤ c1 := (by obtain ⟨_, c', e, h⟩ := o1.form; cases e; rw [List.length_map] at h; exact h)
      refine RL.ev (.assign rfl) rfl rfl ?_
      refine RL.nil (RC.back ?_)
      refine RC.region rfl ?_
      refine RL.ev (.as (.bin rfl rfl rfl) (wi64 (y := ((i + 1 : Nat) : Int)) (by omega) (by omega))) rfl rfl ?_
      refine RL.ev (.move rfl) rfl rfl ?_
      exact RL.nil (fun a ka => ⟨(i + 1, a1, _, c1), ⟨⟨by omega, List.length_map _, hc1⟩, o1.sl.1, S⟩, by omega, ka.keep (keep_of (by repeat (first | exact trivial | refine And.intro rfl ?_)))⟩)
    ·
      have hge : ¬ i < 20 := (by omega)
      rw [← rowN_stay hge] at hm hc hr
      refine RC.skip (RC.back ?_)
      refine RC.region rfl ?_
      refine RL.ev (.as (.bin rfl rfl rfl) (wi64 (y := ((i + 1 : Nat) : Int)) (by omega) (by omega))) rfl rfl ?_
      refine RL.ev (.move rfl) rfl rfl ?_
      exact RL.nil (fun a ka => ⟨(i + 1, ra, rm, rc), ⟨⟨by omega, hm, hc⟩, hr, S⟩, by omega, ka.keep (keep_of (by repeat (first | exact trivial | refine And.intro rfl ?_)))⟩)
  ·
    obtain rfl : i = l.length := (by omega)
    have hRs := rowN_srt m40 sucK 20 l l.length
    have hRok := rowN_all (f := m40) (g := sucK) (most := 20) (l := l) (P := It.ok) (fun x hx i hi => ⟨by unfold I64; show _ ≤ x % 40 ∧ x % 40 ≤ _; omega, by unfold I64; show _ ≤ (i : Int) + 1 ∧ (i : Int) + 1 ≤ _; omega⟩) l.length (Nat.le_refl _)
    have hR40 := rowN_all (f := m40) (g := sucK) (most := 20) (l := l) (P := fun z => 0 ≤ z.k ∧ z.k < 40 ∧ 1 ≤ z.v) (fun x hx i hi => by show 0 ≤ x % 40 ∧ x % 40 < 40 ∧ 1 ≤ (i : Int) + 1; omega) l.length (Nat.le_refl _)
    obtain ⟨R, hR⟩ : ∃ R, rowN m40 sucK 20 l l.length = R := ⟨_, rfl⟩
    rw [hR] at hm hc hr hrl hRs hRok hR40
    have hR20 := hrl.1
    subst hm
    obtain ⟨W0, S0, hr, hW0⟩ : ∃ W, Sub W w1 ∧ Sl W ra 2 (R.map It.cells) ∧ w.heap.size ≤ W.heap.size := ⟨_, Sub.refl _, hr, S.size⟩
    refine RC.exit rfl (RC.back ?_)
    refine RC.seq ?_
    refine RC.region rfl ?_
    refine RL.ev (.move rfl) rfl rfl ?_
    refine RL.call rfl ok8 (c_build 500 R ra rc R.length rfl hc hRs hRok (by omega) (by decide) (by decide) w1 (hr.sub S0)) rfl rfl ?_
    rintro _ w6 ⟨na1, fa1, nc1, fc1, rfl, hn1, hf1, hi1, s7⟩
    have hA := Ft.new hi1 s7
    have S := S.trans s7
    have S0 := S0.trans s7
    obtain ⟨A1, hAe1⟩ : ∃ A, buildA 500 R = A := ⟨_, rfl⟩
    obtain ⟨r1, hre1⟩ : ∃ r, buildR 500 R = r := ⟨_, rfl⟩
    have hB1 := build_ok (size := 500) hRs (by omega) (by decide) (by decide)
    have hM1 := build_map (size := 500) hRs (by omega) (by decide) (by decide) (by omega)
    have hT1 := hB1.isT
    have hU1 := hB1.u
    rw [hAe1, hre1] at hT1 hM1
    rw [hre1] at hU1
    rw [hAe1] at hA hn1 hf1
    rw [hAe1, hre1]
    refine RL.ev (.move rfl) rfl rfl ?_
    refine RL.ev (.extract rfl rfl) rfl rfl ?_
    refine RL.ev (.extract rfl rfl) rfl rfl ?_
    refine RL.alloc ze28 rfl rfl (fun b_12 w_12 e_12 z_12 hb_12 s_12 => ?_)
    have ge_12 := S.le e_12
    have d_hA_b_12 := hA.neNew e_12
    have S := S.trans s_12
    have geS0_12 := S0.le e_12
    have S0 := S0.trans s_12
    have hA := hA.sub s_12
    refine RL.store sh28 rfl rfl rfl hb_12 (by exact Nat.le_of_ble_eq_true rfl) (by rfl) rfl (fun w8 z8 hb_12 a8 => ?_)
    have S := S.upd a8 ge_12
    have S0 := S0.upd a8 geS0_12
    have hA := hA.updD a8 d_hA_b_12
    have hb_12 : Has w8 b_12 ([.slice na1 A1.nodes.length nc1, .slice fa1 A1.free.length fc1]) _ := hb_12.now (by kernel_rfl)
    refine RL.ev (.assign rfl) rfl rfl ?_
    refine RL.nil (RC.back ?_)
    refine RC.seq ?_
    refine RC.region rfl ?_
    refine RL.ev (.loadR ([.slice na1 A1.nodes.length nc1, .slice fa1 A1.free.length fc1]) sh28 rfl hb_12.row rfl) rfl rfl ?_
    refine RL.ev (.move rfl) rfl rfl ?_
    refine RL.ev (.move rfl) rfl rfl ?_
    refine RL.ev (.move rfl) rfl rfl ?_
    refine RL.call rfl ok14 (c_open A1 na1 fa1 nc1 fc1 r1 hU1 a b w8 hA.now) rfl rfl ?_
    rintro _ w9 ⟨s10, c1, e1, rfl, _, hc1⟩
    have S := S.trans s10
    have S0 := S0.trans s10
    have hA := hA.sub s10
    have hb_12 := hb_12.sub s10
    obtain ⟨rfl, rfl⟩ := hc1 hM1
    refine RL.ev (.move rfl) rfl rfl ?_
    refine RL.ev (.extract rfl rfl) rfl rfl ?_
    refine RL.ev (.extract rfl rfl) rfl rfl ?_
    refine RL.alloc ze46 rfl rfl (fun b_14 w_14 e_14 z_14 hb_14 s_14 => ?_)
    have ge_14 := S.le e_14
    have n_12__14 := hb_12.ne e_14
    have d_hA_b_14 := hA.neNew e_14
    have S := S.trans s_14
    have geS0_14 := S0.le e_14
    have S0 := S0.trans s_14
    have hA := hA.sub s_14
    have hb_12 := hb_12.sub s_14
    refine RL.store sh46 rfl rfl rfl hb_14 (by exact Nat.le_of_ble_eq_true rfl) (by rfl) rfl (fun w11 z11 hb_14 a11 => ?_)
    have S := S.upd a11 ge_14
    have S0 := S0.upd a11 geS0_14
    have hA := hA.updD a11 d_hA_b_14
    have hb_12 := hb_12.upd a11 n_12__14
    have hb_14 : Has w11 b_14 ((⟨r1, a, b, false⟩ : Cu).cells) _ := hb_14.now (by kernel_rfl)
    refine RL.ev (.assign rfl) rfl rfl ?_
    refine RL.nil (RC.back ?_)
    refine RC.seq ?_
    refine RC.seq ?_
    refine RC.region rfl ?_
    refine RL.ev (.move rfl) rfl rfl ?_
    refine RL.ev (.as (v' := .bool false) (.bin rfl rfl rfl) (congrArg Value.bool (decide_eq_false (fun h => h rfl)))) rfl rfl ?_
    refine RL.ev (.move rfl) rfl rfl ?_
    refine RL.call rfl ok10 (c_alive8 w11) rfl rfl ?_
    rintro _ w12 ⟨rfl, s13⟩
    have S := S.trans s13
    have S0 := S0.trans s13
    have hA := hA.sub s13
    have hb_12 := hb_12.sub s13
    have hb_14 := hb_14.sub s13
    refine RL.ev (.not rfl) rfl rfl ?_
    refine RL.ev (.pick_f rfl rfl) rfl rfl ?_
    refine RL.nil (RC.back ?_)
    refine RC.cond_f rfl ?_
    refine RC.skip (RC.back ?_)
    refine RC.seq ?_
    refine RC.region rfl ?_
    refine RL.ev (.move rfl) rfl rfl ?_
    refine RL.ev (.assign rfl) rfl rfl ?_
    refine RL.nil (RC.back ?_)
    refine RC.seq ?_
    refine RC.region rfl ?_
    refine RL.ev (.assign rfl) rfl rfl ?_
    refine RL.nil (RC.back ?_)
    refine RC.seq ?_
    refine RC.seq ?_
    refine RC.region rfl ?_
    refine RL.ev (.move rfl) rfl rfl ?_
    refine RL.nil (RC.back ?_)
    refine RC.block ?_
    refine RC.loop (α := Nat × (Ar × Option Addr × Option Addr × Nat × Nat) × (Int × List It) × (Nat → Prop) × Int × (Option Addr × Nat) × List It) (fun x => [(1, .slice qa m.length qc), (2, .int .i64 a), (3, .int .i64 b), (9, .slice ra R.length rc), (12, .pointer (some ⟨b_12, 0, none⟩)), (14, .pointer (some ⟨b_14, 0, none⟩)), (16, .int .u64 x.2.2.1.1), (17, .slice x.2.2.2.2.2.1.1 (x.2.2.2.2.2.2.map It.cells).length x.2.2.2.2.2.1.2), (63, .int .i64 (x.1 : Int))]) (fun x w14 => (x.1 ≤ 30 ∧ x.2.2.2.2.2.2.length = x.1 ∧ x.2.2.2.2.2.2 ++ inR x.2.2.2.2.1 b R = inR a b R ∧ I64 x.2.2.2.2.1 ∧ AOk x.2.1.1 ∧ IsT x.2.1.1 r1 R ∧ IsT x.2.1.1 x.2.2.1.1 x.2.2.1.2 ∧ U64 x.2.2.1.1 ∧ x.2.2.1.2.length ≤ 20 + x.1 ∧ x.2.1.1.nodes.length ≤ x.2.1.2.2.2.1 ∧ x.2.1.1.free.length ≤ x.2.1.2.2.2.2) ∧ Has w14 b_12 [.slice x.2.1.2.1 x.2.1.1.nodes.length x.2.1.2.2.2.1, .slice x.2.1.2.2.1 x.2.1.1.free.length x.2.1.2.2.2.2] 28 ∧ Has w14 b_14 (⟨r1, x.2.2.2.2.1, b, false⟩ : Cu).cells 46 ∧ Ft x.2.2.2.1 (fun u => ArR u x.2.1.2.1 x.2.1.2.2.1 x.2.1.1) w14 ∧ Ows W0.heap.size w14 42 2 (.slice x.2.2.2.2.2.1.1 (x.2.2.2.2.2.2.map It.cells).length x.2.2.2.2.2.1.2) (x.2.2.2.2.2.2.map It.cells) ∧ ((∀ k, x.2.2.2.1 k → k ≠ b_12) ∧ (∀ k, x.2.2.2.1 k → k ≠ b_14) ∧ (∀ k, ob (.slice x.2.2.2.2.2.1.1 (x.2.2.2.2.2.2.map It.cells).length x.2.2.2.2.2.1.2) = some k → k ≠ b_12) ∧ (∀ k, ob (.slice x.2.2.2.2.2.1.1 (x.2.2.2.2.2.2.map It.cells).length x.2.2.2.2.2.1.2) = some k → k ≠ b_14) ∧ (∀ k, ob (.slice x.2.2.2.2.2.1.1 (x.2.2.2.2.2.2.map It.cells).length x.2.2.2.2.2.1.2) = some k → x.2.2.2.1 k → False)) ∧ Sub W0 w14 ∧ Sub w w14) (fun x => 30 - x.1) (0, (A1, na1, fa1, nc1, fc1), (r1, R), _, a, (none, 0), []) (keep_of (by repeat (first | exact trivial | refine And.intro rfl ?_))) (⟨⟨Nat.zero_le _, rfl, rfl, ha, hM1.1, hT1, hT1, hU1, by show R.length ≤ 20 + 0; omega, hn1, hf1⟩, hb_12, hb_14, hA, Ows.nil _ _ _ _, ⟨d_hA_b_12, d_hA_b_14, fun k hk => obNil hk, fun k hk => obNil hk, fun k hk => obNil hk⟩, S0, S⟩) (fun x w14 hJ => ?_)
    obtain ⟨i, ⟨A, na, fa, nc, fc⟩, ⟨rn, K⟩, M, lo, ⟨ga, gc⟩, G⟩ := x; obtain ⟨⟨hi, hGi, hGd, hlo, hok, hT0, hTn, hUn, hKl, hnc, hfc⟩, hb_12, hb_14, hA, o, ⟨d1, d2, d3, d4, d5⟩, S0, S⟩ := hJ; simp only [] at hi hGi hGd hlo hok hT0 hTn hUn hKl hnc hfc hb_12 hb_14 hA o d1 d2 d3 d4 d5
    refine RC.seq ?_
    refine RC.region rfl ?_
    refine RL.ev (.bin rfl rfl rfl) rfl rfl ?_
    refine RL.nil (RC.back ?_)
    refine RC.seq ?_
    refine RC.cond_dec rfl (fun h15 => ?_) (fun h15 => ?_)
    ·
      have hM0 : isMap A r1 := ⟨hok, R, hT0, by omega⟩
      refine RC.skip (RC.back ?_)
      refine RC.seq ?_
      refine RC.block ?_
      refine RC.seq ?_
      refine RC.region rfl ?_
      refine RL.ev (.move rfl) rfl rfl ?_
      refine RL.ev (.assign rfl) rfl rfl ?_
      refine RL.nil (RC.back ?_)
      refine RC.cutx (α := (Ar × Option Addr × Option Addr × Nat × Nat) × (Int × List It) × (Nat → Prop)) (fun y_ => [(1, .slice qa m.length qc), (2, .int .i64 a), (3, .int .i64 b), (9, .slice ra R.length rc), (12, .pointer (some ⟨b_12, 0, none⟩)), (14, .pointer (some ⟨b_14, 0, none⟩)), (16, .int .u64 y_.2.1.1), (17, .slice ga (G.map It.cells).length gc), (63, .int .i64 (i : Int))]) (fun y_ w16 => (AOk y_.1.1 ∧ IsT y_.1.1 r1 R ∧ IsT y_.1.1 y_.2.1.1 y_.2.1.2 ∧ U64 y_.2.1.1 ∧ y_.2.1.2.length ≤ 20 + (i + 1) ∧ y_.1.1.nodes.length ≤ y_.1.2.2.2.1 ∧ y_.1.1.free.length ≤ y_.1.2.2.2.2) ∧ Has w16 b_12 [.slice y_.1.2.1 y_.1.1.nodes.length y_.1.2.2.2.1, .slice y_.1.2.2.1 y_.1.1.free.length y_.1.2.2.2.2] 28 ∧ Has w16 b_14 (⟨r1, lo, b, false⟩ : Cu).cells 46 ∧ Ft y_.2.2 (fun u => ArR u y_.1.2.1 y_.1.2.2.1 y_.1.1) w16 ∧ Ows W0.heap.size w16 42 2 (.slice ga (G.map It.cells).length gc) (G.map It.cells) ∧ ((∀ k, y_.2.2 k → k ≠ b_12) ∧ (∀ k, y_.2.2 k → k ≠ b_14) ∧ (∀ k, ob (.slice ga (G.map It.cells).length gc) = some k → y_.2.2 k → False)) ∧ Sub W0 w16 ∧ Sub w w16) ?_ (fun y_ w16 hJ => ?_)
      ·
        refine RC.seq ?_
        refine RC.region rfl ?_
        refine RL.ev (.move rfl) rfl rfl ?_
        refine RL.ev (.move rfl) rfl rfl ?_
        refine RL.ev (.len sl22 rfl) rfl rfl ?_
        refine RL.ev (.bin rfl rfl rfl) rfl rfl ?_
        refine RL.ev (.move rfl) rfl rfl ?_
        refine RL.split 70 rfl (fun h17 => ?_) (fun h17 => ?_)
        ·
          have h70 := h17
          obtain ⟨y, hy⟩ := getSome (l := m) (i := i) (by omega)
          have hyi : -9223372036854775808 ≤ y ∧ y ≤ 9223372036854775807 := hmi y (List.mem_of_getElem? hy)
          have nmy := norm_mod y 40 (by decide)
          refine RL.ev (.field0 fo28_1 rfl) rfl rfl ?_
          refine RL.ev (.load1 sh26 rfl (hb_12.cell rfl)) rfl rfl ?_
          refine RL.ev (.len sl26 rfl) rfl rfl ?_
          refine RL.ev (.bin rfl rfl rfl) rfl rfl ?_
          refine RL.ev (.pick_t rfl rfl) rfl rfl ?_
          refine RL.nil (RC.back ?_)
          refine RC.cond_dec rfl (fun h18 => ?_) (fun h18 => ?_)
          ·
            have h75 := h18
            have hMn : isMap A rn := ⟨hok, K, hTn, by omega⟩
            refine RC.seq ?_
            refine RC.drawD (fun k => False) [15] w14.heap.size 18 rfl rfl mxo (fun w19 s20 => ?_)
            have hNN : ∀ k, ((False) ∨ w14.heap.size ≤ k) → w.heap.size ≤ k := fun k e => e.elim (fun e => e.elim) (fun e => Nat.le_trans S.size e)
            have ent_S := S.size
            have ent_S0 := S0.size
            have hN0 : ∀ k, w14.heap.size ≤ k → w.heap.size ≤ k := fun k e => Nat.le_trans S.size e
            have ltD_b_12 := hb_12.lt
            have ltD_b_14 := hb_14.lt
            have ltD_hA := fun k hk => (hA.ge k hk).2
            have ltD_o := fun k hk => (o.ge k hk).2
            have szD := Nat.le_refl w14.heap.size
            have S := S.trans s20
            have S0 := S0.trans s20
            have hb_12 := hb_12.sub s20
            have hb_14 := hb_14.sub s20
            have hA := hA.sub s20
            have o := o.sub s20
            have szD := Nat.le_trans szD s20.size
            refine RD.take 0 rfl (by kernel_rfl) (by kernel_rfl) (by kernel_rfl) (fun w' s' => .loadR ([.slice na A.nodes.length nc, .slice fa A.free.length fc]) sh28 rfl (hb_12.step s' (fun e => e.elim (fun e => e.elim) (fun e => Nat.not_le.2 ltD_b_12 e))).row rfl) rfl rfl ?_
            refine RD.take 1 rfl (by kernel_rfl) (by kernel_rfl) (by kernel_rfl) (fun w' s' => .move rfl) rfl rfl ?_
            refine RD.take 2 rfl (by kernel_rfl) (by kernel_rfl) (by kernel_rfl) (fun w' s' => .move rfl) rfl rfl ?_
            refine RD.take 3 rfl (by kernel_rfl) (by kernel_rfl) (by kernel_rfl) (fun w' s' => .move rfl) rfl rfl ?_
            refine RD.take 4 rfl (by kernel_rfl) (by kernel_rfl) (by kernel_rfl) (fun w' s' => .indexS sl22 rfl rfl (by omega) (hms.is (i := 0) (by simp only [List.length_map]; omega))) rfl rfl ?_
            refine RD.take 5 rfl (by kernel_rfl) (by kernel_rfl) (by kernel_rfl) (fun w' s' => .load1 sh2 rfl ((hms.sub (S.agrN s' hNN)).one (enc := i6) (i := i) hy)) rfl rfl ?_
            refine RD.take 6 rfl (by kernel_rfl) (by kernel_rfl) (by kernel_rfl) (fun w' s' => .rem rfl rfl (by decide)) rfl rfl ?_
            refine RD.take 7 rfl (by kernel_rfl) (by kernel_rfl) (by kernel_rfl) (fun w' s' => .as (.bin rfl rfl rfl) (wi64 (y := y.tmod 40 + 40) (by rfl) (by omega))) rfl rfl ?_
            refine RD.take 8 rfl (by kernel_rfl) (by kernel_rfl) (by kernel_rfl) (fun w' s' => .as (v' := .int .i64 (y % 40)) (.rem rfl rfl (by decide)) (by rw [nmy.2.2])) rfl rfl ?_
            refine RD.all [9, 14] (by kernel_rfl) rfl (RDs.cons rfl ?_ (RDs.cons rfl ?_ (RDs.nil)))
            ·
              refine RL.call rfl ok16 (c_tput A na fa nc fc hnc hfc rn (y % 40) (-1) hUn (by unfold I64; omega) (by unfold I64; decide) M w19 hA) rfl rfl ?_
              rintro _ w21 ⟨s22, na', fa', nc', fc', A', rn', e', M', rfl, hU', hnc', hfc', hA', hup, hpp⟩
              have d_hA'_b_12 := upNe hup d1 hb_12.lt
              have d_hA'_b_14 := upNe hup d2 hb_14.lt
              have dd_o_hA' := upDD hup d5 (fun k hk => (o.ge k hk).2)
              have d_hA'_o := upDD hup d5 (fun k hk => (o.ge k hk).2)
              have S := S.trans s22
              have S0 := S0.trans s22
              have hb_12 := hb_12.sub s22
              have hb_14 := hb_14.sub s22
              have hA := hA.sub s22
              have o := o.sub s22
              have szD := Nat.le_trans szD s22.size
              obtain ⟨rfl, hE, hok', hf', hTn'⟩ := newPut hpp hMn hTn (by omega) (by omega) (by omega)
              have hpl := putL_len (key := y % 40) (v := -1) hTn.srt
              refine RD.back s22.agr ?_
              refine RD.take 10 rfl (by kernel_rfl) (by kernel_rfl) (by kernel_rfl) (fun w' s' => .move rfl) rfl rfl ?_
              refine RD.take 11 rfl (by kernel_rfl) (by kernel_rfl) (by kernel_rfl) (fun w' s' => .extract rfl rfl) rfl rfl ?_
              refine RD.take 12 rfl (by kernel_rfl) (by kernel_rfl) (by kernel_rfl) (fun w' s' => .extract rfl rfl) rfl rfl ?_
              refine RD.take 13 rfl (by kernel_rfl) (by kernel_rfl) (by kernel_rfl) (fun w' s' => .extract rfl rfl) rfl rfl ?_
              refine RD.all [14] (by kernel_rfl) rfl (RDs.cons rfl ?_ (RDs.nil))
              refine RL.alloc ze28 rfl rfl (fun b_19 w_19 e_19 z_19 hb_19 s_19 => ?_)
              have fr_b_19 : w14.heap.size ≤ b_19 := by rw [e_19]; exact szD
              have ge_19 := S.le e_19
              have n_12__19 := hb_12.ne e_19
              have n_14__19 := hb_14.ne e_19
              have d_o_b_19 := o.neNew e_19
              have d_hA'_b_19 := hA'.neNew e_19
              have S := S.trans s_19
              have geS0_19 := S0.le e_19
              have S0 := S0.trans s_19
              have hb_12 := hb_12.sub s_19
              have hb_14 := hb_14.sub s_19
              have o := o.sub s_19
              have szD := Nat.le_trans szD s_19.size
              have hA' := hA'.sub s_19
              refine RD.back s_19.agr ?_
              refine RD.all [15] (by kernel_rfl) rfl (RDs.cons rfl ?_ (RDs.nil))
              refine RL.store sh28 rfl rfl rfl hb_19 (by exact Nat.le_of_ble_eq_true rfl) (by rfl) rfl (fun w23 z23 hb_19 a23 => ?_)
              have S := S.upd a23 ge_19
              have S0 := S0.upd a23 geS0_19
              have hb_12 := hb_12.upd a23 n_12__19
              have hb_14 := hb_14.upd a23 n_14__19
              have o := o.updD a23 d_o_b_19
              have szD := Nat.le_trans szD a23.size
              have hA' := hA'.updD a23 d_hA'_b_19
              have hb_19 : Has w23 b_19 ([.slice na' A'.nodes.length nc', .slice fa' A'.free.length fc']) _ := hb_19.now (by kernel_rfl)
              refine RD.backW rfl (a23.mono fun k _ e => e ▸ (.inr fr_b_19)) ?_
              refine RD.take 16 rfl (by kernel_rfl) (by kernel_rfl) (by kernel_rfl) (fun w' s' => .assign rfl) rfl rfl ?_
              refine RD.take 17 rfl (by kernel_rfl) (by kernel_rfl) (by kernel_rfl) (fun w' s' => .assign rfl) rfl rfl ?_
              refine RD.done (by kernel_rfl) (RC.back ?_)
              refine RC.seq ?_
              refine RC.seq ?_
              refine RC.region rfl ?_
              refine RL.ev (.move rfl) rfl rfl ?_
              refine RL.ev (.as (v' := .bool false) (.bin rfl rfl rfl) (congrArg Value.bool (decide_eq_false (fun h => h rfl)))) rfl rfl ?_
              refine RL.nil (RC.back ?_)
              refine RC.cond_f rfl ?_
              refine RC.skip (RC.back ?_)
              refine RC.region rfl ?_
              refine RL.ev (.loadR ([.slice na' A'.nodes.length nc', .slice fa' A'.free.length fc']) sh28 rfl hb_19.row rfl) rfl rfl ?_
              refine RL.ev (.move rfl) rfl rfl ?_
              refine RL.store sh28 rfl rfl rfl hb_12 (by exact Nat.le_of_ble_eq_true rfl) (by rfl) rfl (fun w24 z24 hb_12 a24 => ?_)
              have S := S.upd a24 ge_12
              have S0 := S0.upd a24 geS0_12
              have hb_14 := hb_14.upd a24 n_12__14.symm
              have o := o.updD a24 d3
              have hA' := hA'.updD a24 d_hA'_b_12
              have hb_19 := hb_19.upd a24 n_12__19.symm
              have hb_12 : Has w24 b_12 ([.slice na' A'.nodes.length nc', .slice fa' A'.free.length fc']) _ := hb_12.now (by kernel_rfl)
              refine RL.ev (.assign rfl) rfl rfl ?_
              exact RL.nil (fun a ka => ⟨((A', na', fa', nc', fc'), (rn', putL K (y % 40) (-1)), M'), ⟨⟨hok', hE.isT hT0, hTn', hU', by show (putL K (y % 40) (-1)).length ≤ _; omega, hnc', hfc'⟩, hb_12, hb_14, hA', o, ⟨d_hA'_b_12, d_hA'_b_14, d_hA'_o⟩, S0, S⟩, ka.keep (keep_of (by repeat (first | exact trivial | refine And.intro rfl ?_)))⟩)
            ·
              refine RL.alloc ze28 rfl rfl (fun b_19 w_19 e_19 z_19 hb_19 s_19 => ?_)
              have fr_b_19 : w14.heap.size ≤ b_19 := by rw [e_19]; exact szD
              have ge_19 := S.le e_19
              have n_12__19 := hb_12.ne e_19
              have n_14__19 := hb_14.ne e_19
              have d_hA_b_19 := hA.neNew e_19
              have d_o_b_19 := o.neNew e_19
              have S := S.trans s_19
              have geS0_19 := S0.le e_19
              have S0 := S0.trans s_19
              have hb_12 := hb_12.sub s_19
              have hb_14 := hb_14.sub s_19
              have hA := hA.sub s_19
              have o := o.sub s_19
              have szD := Nat.le_trans szD s_19.size
              refine RD.back s_19.agr ?_
              refine RD.all [9] (by kernel_rfl) rfl (RDs.cons rfl ?_ (RDs.nil))
              refine RL.call rfl ok16 (c_tput A na fa nc fc hnc hfc rn (y % 40) (-1) hUn (by unfold I64; omega) (by unfold I64; decide) M w_19 hA) rfl rfl ?_
              rintro _ w25 ⟨s26, na', fa', nc', fc', A', rn', e', M', rfl, hU', hnc', hfc', hA', hup, hpp⟩
              have d_hA'_b_12 := upNe hup d1 hb_12.lt
              have d_hA'_b_14 := upNe hup d2 hb_14.lt
              have dd_o_hA' := upDD hup d5 (fun k hk => (o.ge k hk).2)
              have d_hA'_b_19 := upNe hup d_hA_b_19 hb_19.lt
              have d_hA'_o := upDD hup d5 (fun k hk => (o.ge k hk).2)
              have S := S.trans s26
              have S0 := S0.trans s26
              have hb_12 := hb_12.sub s26
              have hb_14 := hb_14.sub s26
              have hA := hA.sub s26
              have o := o.sub s26
              have szD := Nat.le_trans szD s26.size
              have hb_19 := hb_19.sub s26
              obtain ⟨rfl, hE, hok', hf', hTn'⟩ := newPut hpp hMn hTn (by omega) (by omega) (by omega)
              have hpl := putL_len (key := y % 40) (v := -1) hTn.srt
              refine RD.back s26.agr ?_
              refine RD.take 10 rfl (by kernel_rfl) (by kernel_rfl) (by kernel_rfl) (fun w' s' => .move rfl) rfl rfl ?_
              refine RD.take 11 rfl (by kernel_rfl) (by kernel_rfl) (by kernel_rfl) (fun w' s' => .extract rfl rfl) rfl rfl ?_
              refine RD.take 12 rfl (by kernel_rfl) (by kernel_rfl) (by kernel_rfl) (fun w' s' => .extract rfl rfl) rfl rfl ?_
              refine RD.take 13 rfl (by kernel_rfl) (by kernel_rfl) (by kernel_rfl) (fun w' s' => .extract rfl rfl) rfl rfl ?_
              refine RD.all [15] (by kernel_rfl) rfl (RDs.cons rfl ?_ (RDs.nil))
              refine RL.store sh28 rfl rfl rfl hb_19 (by exact Nat.le_of_ble_eq_true rfl) (by rfl) rfl (fun w27 z27 hb_19 a27 => ?_)
              have S := S.upd a27 ge_19
              have S0 := S0.upd a27 geS0_19
              have hb_12 := hb_12.upd a27 n_12__19
              have hb_14 := hb_14.upd a27 n_14__19
              have o := o.updD a27 d_o_b_19
              have szD := Nat.le_trans szD a27.size
              have hA' := hA'.updD a27 d_hA'_b_19
              have hb_19 : Has w27 b_19 ([.slice na' A'.nodes.length nc', .slice fa' A'.free.length fc']) _ := hb_19.now (by kernel_rfl)
              refine RD.backW rfl (a27.mono fun k _ e => e ▸ (.inr fr_b_19)) ?_
              refine RD.take 16 rfl (by kernel_rfl) (by kernel_rfl) (by kernel_rfl) (fun w' s' => .assign rfl) rfl rfl ?_
              refine RD.take 17 rfl (by kernel_rfl) (by kernel_rfl) (by kernel_rfl) (fun w' s' => .assign rfl) rfl rfl ?_
              refine RD.done (by kernel_rfl) (RC.back ?_)
              refine RC.seq ?_
              refine RC.seq ?_
              refine RC.region rfl ?_
              refine RL.ev (.move rfl) rfl rfl ?_
              refine RL.ev (.as (v' := .bool false) (.bin rfl rfl rfl) (congrArg Value.bool (decide_eq_false (fun h => h rfl)))) rfl rfl ?_
              refine RL.nil (RC.back ?_)
              refine RC.cond_f rfl ?_
              refine RC.skip (RC.back ?_)
              refine RC.region rfl ?_
              refine RL.ev (.loadR ([.slice na' A'.nodes.length nc', .slice fa' A'.free.length fc']) sh28 rfl hb_19.row rfl) rfl rfl ?_
              refine RL.ev (.move rfl) rfl rfl ?_
              refine RL.store sh28 rfl rfl rfl hb_12 (by exact Nat.le_of_ble_eq_true rfl) (by rfl) rfl (fun w28 z28 hb_12 a28 => ?_)
              have S := S.upd a28 ge_12
              have S0 := S0.upd a28 geS0_12
              have hb_14 := hb_14.upd a28 n_12__14.symm
              have o := o.updD a28 d3
              have hb_19 := hb_19.upd a28 n_12__19.symm
              have hA' := hA'.updD a28 d_hA'_b_12
              have hb_12 : Has w28 b_12 ([.slice na' A'.nodes.length nc', .slice fa' A'.free.length fc']) _ := hb_12.now (by kernel_rfl)
              refine RL.ev (.assign rfl) rfl rfl ?_
              exact RL.nil (fun a ka => ⟨((A', na', fa', nc', fc'), (rn', putL K (y % 40) (-1)), M'), ⟨⟨hok', hE.isT hT0, hTn', hU', by show (putL K (y % 40) (-1)).length ≤ _; omega, hnc', hfc'⟩, hb_12, hb_14, hA', o, ⟨d_hA'_b_12, d_hA'_b_14, d_hA'_o⟩, S0, S⟩, ka.keep (keep_of (by repeat (first | exact trivial | refine And.intro rfl ?_)))⟩)
          ·
            have h75 := h18
            exact RC.skip (fun a ka => ⟨((A, na, fa, nc, fc), (rn, K), M), ⟨⟨hok, hT0, hTn, hUn, by show K.length ≤ _; omega, hnc, hfc⟩, hb_12, hb_14, hA, o, ⟨d1, d2, d5⟩, S0, S⟩, ka.keep (keep_of (by repeat (first | exact trivial | refine And.intro rfl ?_)))⟩)
        ·
          have h70 := h17
          refine RL.off rfl rfl ?_
          refine RL.off rfl rfl ?_
          refine RL.off rfl rfl ?_
          refine RL.off rfl rfl ?_
          refine RL.ev (.pick_f rfl rfl) rfl rfl ?_
          refine RL.nil (RC.back ?_)
          refine RC.cond_f rfl ?_
          exact RC.skip (fun a ka => ⟨((A, na, fa, nc, fc), (rn, K), M), ⟨⟨hok, hT0, hTn, hUn, by show K.length ≤ _; omega, hnc, hfc⟩, hb_12, hb_14, hA, o, ⟨d1, d2, d5⟩, S0, S⟩, ka.keep (keep_of (by repeat (first | exact trivial | refine And.intro rfl ?_)))⟩)
      obtain ⟨⟨A, na, fa, nc, fc⟩, ⟨rn, K⟩, M⟩ := y_
      obtain ⟨⟨hok, hT0, hTn, hUn, hKl, hnc, hfc⟩, hb_12, hb_14, hA, o, ⟨d1, d2, d5⟩, S0, S⟩ := hJ
      simp only [] at hok hT0 hTn hUn hKl hnc hfc hb_12 hb_14 hA o d1 d2 d5
      have hM0 : isMap A r1 := ⟨hok, R, hT0, by omega⟩
      refine RC.seq ?_
      refine RC.region rfl ?_
      refine RL.ev (.loadR ([.slice na A.nodes.length nc, .slice fa A.free.length fc]) sh28 rfl hb_12.row rfl) rfl rfl ?_
      refine RL.ev (.loadR ((⟨r1, lo, b, false⟩ : Cu).cells) sh46 rfl hb_14.row rfl) rfl rfl ?_
      refine RL.call rfl ok15 (c_step A na fa nc fc ⟨r1, lo, b, false⟩ hU1 hlo hb w16 hA.now) rfl rfl ?_
      rintro _ w29 ⟨s30, c2, x2, e2, rfl, _, _, hs2⟩
      have S := S.trans s30
      have S0 := S0.trans s30
      have hb_12 := hb_12.sub s30
      have hb_14 := hb_14.sub s30
      have hA := hA.sub s30
      have o := o.sub s30
      obtain ⟨rfl, hst⟩ := hs2 R hM0 hT0 rfl
      obtain ⟨hk1, hk2⟩ := kg_step hRs hR40 hGi hGd hst
      refine RL.ev (.move rfl) rfl rfl ?_
      refine RL.ev (.extract rfl rfl) rfl rfl ?_
      refine RL.ev (.extract rfl rfl) rfl rfl ?_
      refine RL.ev (.extract rfl rfl) rfl rfl ?_
      refine RL.alloc ze46 rfl rfl (fun b_22 w_22 e_22 z_22 hb_22 s_22 => ?_)
      have ge_22 := S.le e_22
      have n_12__22 := hb_12.ne e_22
      have n_14__22 := hb_14.ne e_22
      have d_hA_b_22 := hA.neNew e_22
      have d_o_b_22 := o.neNew e_22
      have S := S.trans s_22
      have geS0_22 := S0.le e_22
      have S0 := S0.trans s_22
      have hb_12 := hb_12.sub s_22
      have hb_14 := hb_14.sub s_22
      have hA := hA.sub s_22
      have o := o.sub s_22
      refine RL.alloc ze42 rfl rfl (fun b_23 w_23 e_23 z_23 hb_23 s_23 => ?_)
      have ge_23 := S.le e_23
      have n_12__23 := hb_12.ne e_23
      have n_14__23 := hb_14.ne e_23
      have n_22__23 := hb_22.ne e_23
      have d_hA_b_23 := hA.neNew e_23
      have d_o_b_23 := o.neNew e_23
      have S := S.trans s_23
      have geS0_23 := S0.le e_23
      have S0 := S0.trans s_23
      have hb_12 := hb_12.sub s_23
      have hb_14 := hb_14.sub s_23
      have hA := hA.sub s_23
      have o := o.sub s_23
      have hb_22 := hb_22.sub s_23
      refine RL.store sh46 rfl rfl rfl hb_22 (by exact Nat.le_of_ble_eq_true rfl) (by rfl) rfl (fun w31 z31 hb_22 a31 => ?_)
      have S := S.upd a31 ge_22
      have S0 := S0.upd a31 geS0_22
      have hb_12 := hb_12.upd a31 n_12__22
      have hb_14 := hb_14.upd a31 n_14__22
      have hA := hA.updD a31 d_hA_b_22
      have o := o.updD a31 d_o_b_22
      have hb_23 := hb_23.upd a31 n_22__23.symm
      have hb_22 : Has w31 b_22 (c2.cells) _ := hb_22.now (by kernel_rfl)
      refine RL.store sh42 rfl rfl rfl hb_23 (by exact Nat.le_of_ble_eq_true rfl) (by rfl) rfl (fun w32 z32 hb_23 a32 => ?_)
      have S := S.upd a32 ge_23
      have S0 := S0.upd a32 geS0_23
      have hb_12 := hb_12.upd a32 n_12__23
      have hb_14 := hb_14.upd a32 n_14__23
      have hA := hA.updD a32 d_hA_b_23
      have o := o.updD a32 d_o_b_23
      have hb_22 := hb_22.upd a32 n_22__23
      have hb_23 : Has w32 b_23 (x2.cells) _ := hb_23.now (by kernel_rfl)
      refine RL.ev (.assign rfl) rfl rfl ?_
      refine RL.nil (RC.back ?_)
      refine RC.seq ?_
      refine RC.seq ?_
      refine RC.region rfl ?_
      refine RL.ev (.move rfl) rfl rfl ?_
      refine RL.ev (.as (v' := .bool false) (.bin rfl rfl rfl) (congrArg Value.bool (decide_eq_false (fun h => h rfl)))) rfl rfl ?_
      refine RL.nil (RC.back ?_)
      refine RC.cond_f rfl ?_
      refine RC.skip (RC.back ?_)
      refine RC.cutx (α := (Option Addr × Nat) × List It) (fun y_ => [(1, .slice qa m.length qc), (2, .int .i64 a), (3, .int .i64 b), (9, .slice ra R.length rc), (12, .pointer (some ⟨b_12, 0, none⟩)), (14, .pointer (some ⟨b_14, 0, none⟩)), (16, .int .u64 rn), (17, .slice y_.1.1 (y_.2.map It.cells).length y_.1.2), (63, .int .i64 (i : Int))]) (fun y_ w33 => KG r1 b a R y_.2 (i + 1) c2 ∧ Has w33 b_12 [.slice na A.nodes.length nc, .slice fa A.free.length fc] 28 ∧ Has w33 b_14 c2.cells 46 ∧ Ft M (fun u => ArR u na fa A) w33 ∧ Ows W0.heap.size w33 42 2 (.slice y_.1.1 (y_.2.map It.cells).length y_.1.2) (y_.2.map It.cells) ∧ ((∀ k, ob (.slice y_.1.1 (y_.2.map It.cells).length y_.1.2) = some k → k ≠ b_12) ∧ (∀ k, ob (.slice y_.1.1 (y_.2.map It.cells).length y_.1.2) = some k → k ≠ b_14) ∧ (∀ k, ob (.slice y_.1.1 (y_.2.map It.cells).length y_.1.2) = some k → M k → False)) ∧ Sub W0 w33 ∧ Sub w w33) ?_ (fun y_ w33 hJ => ?_)
      ·
        refine RC.seq ?_
        refine RC.region rfl ?_
        refine RL.ev (.loadR (c2.cells) sh46 rfl hb_22.row rfl) rfl rfl ?_
        refine RL.store sh46 rfl rfl rfl hb_14 (by exact Nat.le_of_ble_eq_true rfl) (by rfl) rfl (fun w34 z34 hb_14 a34 => ?_)
        have S := S.upd a34 ge_14
        have S0 := S0.upd a34 geS0_14
        have hb_12 := hb_12.upd a34 n_12__14
        have hA := hA.updD a34 d2
        have o := o.updD a34 d4
        have hb_22 := hb_22.upd a34 n_14__22.symm
        have hb_23 := hb_23.upd a34 n_14__23.symm
        have hb_14 : Has w34 b_14 (c2.cells) _ := hb_14.now (by kernel_rfl)
        refine RL.nil (RC.back ?_)
        refine RC.seq ?_
        refine RC.region rfl ?_
        refine RL.ev (.field0 fo42_1 rfl) rfl rfl ?_
        refine RL.ev (.load1 sh2 rfl (hb_23.cell rfl)) rfl rfl ?_
        refine RL.ev (.bin rfl rfl rfl) rfl rfl ?_
        refine RL.nil (RC.back ?_)
        refine RC.cond_dec rfl (fun h35 => ?_) (fun h35 => ?_)
        ·
          have hkg := hk1 h35
          have szB := S0.size
          refine RC.region rfl ?_
          refine RL.ev (.move rfl) rfl rfl ?_
          refine RL.ev (.loadR (x2.cells) sh42 rfl hb_23.row rfl) rfl rfl ?_
          refine RL.buildSlice1 sl23 _ ze42 rfl rfl rfl rfl rfl rfl rfl (fun b_109 w_109 e_109 z_109 hb_109 s_109 => ?_)
          have ge_109 := S.le e_109
          have n_12__109 := hb_12.ne e_109
          have n_14__109 := hb_14.ne e_109
          have n_22__109 := hb_22.ne e_109
          have n_23__109 := hb_23.ne e_109
          have d_hA_b_109 := hA.neNew e_109
          have d_o_b_109 := o.neNew e_109
          have S := S.trans s_109
          have geS0_109 := S0.le e_109
          have S0 := S0.trans s_109
          have hb_12 := hb_12.sub s_109
          have hb_14 := hb_14.sub s_109
          have hA := hA.sub s_109
          have o := o.sub s_109
          have hb_22 := hb_22.sub s_109
          have hb_23 := hb_23.sub s_109
          have sz_110 := S.size
          have szS0_110 := S0.size
          have ltb_12_110 := hb_12.lt
          have ltb_14_110 := hb_14.lt
          have ltb_22_110 := hb_22.lt
          have ltb_23_110 := hb_23.lt
          have ltb_109_110 := hb_109.lt
          refine RL.append2 (base := W0.heap.size) (rows := G.map It.cells) (news := [_]) sl23 ze42 rfl rfl rfl rfl (.inl o) (Has.slOne hb_109) rfl (by intro r hr; rw [List.mem_singleton] at hr; subst hr; rfl) rfl (by (try simp only [List.length_map, List.length_nil, List.length_append, List.length_cons]); omega) (by (try simp only [List.length_map, List.length_nil, List.length_append, List.length_cons]); omega) (by omega) rfl rfl (fun v_110 w_110 hc_110 ho_110 ag_110 ob_110 => ?_)
          have o110 := ho_110 (.inl (by simp))
          rw [show _ ++ [_] = ((G ++ [x2]).map It.cells) from by rw [List.map_append]; rfl] at o110
          have d_o110_b_12 := obNe ob_110 d3 hb_12.lt
          have d_o110_b_14 := obNe ob_110 d4 hb_14.lt
          have dd_o110_hA := obDF ob_110 d5 (fun k hk => (hA.ge k hk).2)
          have d_o110_b_22 := obNe ob_110 d_o_b_22 hb_22.lt
          have d_o110_b_23 := obNe ob_110 d_o_b_23 hb_23.lt
          have S := S.agrN ag_110 (fun k e => Nat.le_trans (by omega) e.2)
          have S0 := S0.agrN ag_110 (fun k e => Nat.le_trans (by omega) e.2)
          have hb_12 := hb_12.step ag_110 (fun e => d3 _ e.1 rfl)
          have hb_14 := hb_14.step ag_110 (fun e => d4 _ e.1 rfl)
          have hA := hA.step ag_110 (fun k hk e => d5 k e.1 hk)
          have hb_22 := hb_22.step ag_110 (fun e => d_o_b_22 _ e.1 rfl)
          have hb_23 := hb_23.step ag_110 (fun e => d_o_b_23 _ e.1 rfl)
          obtain ⟨a_110, c_110, rfl, k_110⟩ := o110.form
          refine RL.ev (.assign rfl) rfl rfl ?_
          exact RL.nil (fun a ka => ⟨((a_110, c_110), G ++ [x2]), ⟨hkg, hb_12, hb_14, hA, o110, ⟨d_o110_b_12, d_o110_b_14, dd_o110_hA⟩, S0, S⟩, ka.keep (keep_of (by repeat (first | exact trivial | refine And.intro rfl ?_)))⟩)
        ·
          have hkg := hk2 (Classical.not_not.1 h35)
          exact RC.skip (fun a ka => ⟨((ga, gc), G), ⟨hkg, hb_12, hb_14, hA, o, ⟨d3, d4, d5⟩, S0, S⟩, ka.keep (keep_of (by repeat (first | exact trivial | refine And.intro rfl ?_)))⟩)
      obtain ⟨⟨ga', gc'⟩, G'⟩ := y_
      obtain ⟨hkg, hb_12, hb_14, hA, o, ⟨d3', d4', d5'⟩, S0, S⟩ := hJ
      simp only [] at hkg o d3' d4' d5'
      refine RC.seq ?_
      refine RC.region rfl ?_
      refine RL.ev (.field0 fo46_3 rfl) rfl rfl ?_
      refine RL.ev (.load1 sh4 rfl (hb_14.cell rfl)) rfl rfl ?_
      refine RL.nil (RC.back ?_)
      refine RC.cond rfl (fun h36 => ?_) (fun h36 => ?_)
      ·
        have hfin : c2.fin = true := h36
        have hG := hkg.fin hfin
        have hoc : G'.length ≤ gc' := (by obtain ⟨_, c', e, h⟩ := o.form; cases e; rw [List.length_map] at h; exact h)
        have hGl : G'.length ≤ R.length := (by rw [hG]; exact inR_len a b R)
        refine RC.exit rfl (RC.back ?_)
        refine RC.seq ?_
        refine RC.region rfl ?_
        refine RL.ev (.field0 fo46_3 rfl) rfl rfl ?_
        refine RL.ev (.as (v' := .bool true) (.load1 sh4 rfl (hb_14.cell rfl)) (congrArg Value.bool (hfin))) rfl rfl ?_
        refine RL.ev (.move rfl) rfl rfl ?_
        refine RL.ev (.move rfl) rfl rfl ?_
        refine RL.ev (.move rfl) rfl rfl ?_
        refine RL.ev (.move rfl) rfl rfl ?_
        refine RL.ev (.move rfl) rfl rfl ?_
        refine RL.call rfl ok17 (c_within R ra rc R.length rfl a b w33 (hr.sub S0) (by omega)) rfl rfl ?_
        rintro _ w37 ⟨xa, xc, rfl, o2, s38⟩
        have S := S.trans s38
        have S0 := S0.trans s38
        have hb_12 := hb_12.sub s38
        have hb_14 := hb_14.sub s38
        have hA := hA.sub s38
        have o := o.sub s38
        refine RL.call rfl ok11 (c_same G' (inR a b R) ga' xa gc' xc _ _ (List.length_map _) (List.length_map _) w37 o.sl.1 o2.sl.1 (by omega)) rfl rfl ?_
        rintro _ w39 ⟨rfl, s40⟩
        have S := S.trans s40
        have S0 := S0.trans s40
        have hb_12 := hb_12.sub s40
        have hb_14 := hb_14.sub s40
        have hA := hA.sub s40
        have o := o.sub s40
        refine RL.ev (.pick_t rfl rfl) rfl rfl ?_
        refine RL.ev (.assign rfl) rfl rfl ?_
        refine RL.nil (RC.back ?_)
        refine RC.done (rs := [.tmp 8]) (vs := [_]) rfl rfl ⟨rfl, trivial⟩ ?_
        -- end 1
        exact ⟨congrArg Value.bool (decide_eq_true hG), S⟩
      ·
        have hfin : c2.fin = false := (by simpa using h36)
        obtain ⟨hGi', hGd', hlo'⟩ := hkg.go hfin
        have hcu : c2 = ⟨r1, c2.lo, b, false⟩ := (by obtain ⟨q1, q2, q3, q4⟩ := c2; have := hkg.r; have := hkg.hi; simp only [] at *; subst this; subst_vars; rfl)
        rw [hcu] at hb_14
        refine RC.skip (RC.back ?_)
        refine RC.region rfl ?_
        refine RL.ev (.as (.bin rfl rfl rfl) (wi64 (y := ((i + 1 : Nat) : Int)) (by omega) (by omega))) rfl rfl ?_
        refine RL.ev (.move rfl) rfl rfl ?_
        exact RL.nil (fun a ka => ⟨(i + 1, (A, na, fa, nc, fc), (rn, K), M, c2.lo, (ga', gc'), G'), ⟨⟨by omega, hGi', hGd', hlo', hok, hT0, hTn, hUn, hKl, hnc, hfc⟩, hb_12, hb_14, hA, o, ⟨d1, d2, d3', d4', d5'⟩, S0, S⟩, by omega, ka.keep (keep_of (by repeat (first | exact trivial | refine And.intro rfl ?_)))⟩)
    ·
      exact absurd (inR_len a b R) (by rw [← hGd, List.length_append]; omega)
end Go.Proofs.Ytdmaogopibljoaa
