/-
  The statement ArenaReaches.
-/
import Derived.Test.YtfcmbojlflgpmaaArenaReachR
set_option linter.unusedVariables false
set_option linter.unusedSimpArgs false
namespace Go.Proofs.Ytfcmbojlflgpmaa
open Go Go.XL

theorem ext_ints {l m : List Int} {n : Nat} (hl : l.length = n) (hm : m.length = n) (h : ∀ j, j < n → l[j]? = m[j]?) : l = m := by
  apply List.ext_getElem?
  intro j
  by_cases hj : j < n
  · exact h j hj
  · rw [List.getElem?_eq_none (by omega), List.getElem?_eq_none (by omega)]
theorem c_sameInts (l m : List Int) (a b : Option Addr) (c d j k : Nat) (hj : j = l.length) (hk : k = m.length) (w : World) (hl : Sl w a 1 (l.map fun x => [i6 x])) (hm : Sl w b 1 (m.map fun x => [i6 x])) (hb : l.length ≤ 1000000000) :
    FC Try.prog 21 [.slice a j c, .slice b k d] w (Val (.bool (decide (l = m))) w) := by
  subst hj hk
  refine FC.intro Try.func21 rfl Try.ntmps21 rfl ?_
  have S := Sub.refl w
  refine RC.seq ?_
  refine RC.region rfl ?_
  refine RL.ev (.assign rfl) rfl rfl ?_
  refine RL.nil (RC.back ?_)
  refine RC.seq ?_
  refine RC.seq ?_
  refine RC.region rfl ?_
  refine RL.ev (.move rfl) rfl rfl ?_
  refine RL.ev (.len sl23 rfl) rfl rfl ?_
  refine RL.ev (.move rfl) rfl rfl ?_
  refine RL.ev (.len sl23 rfl) rfl rfl ?_
  refine RL.ev (.bin rfl rfl rfl) rfl rfl ?_
  refine RL.nil (RC.back ?_)
  refine RC.cond_dec rfl (fun h1 => ?_) (fun h1 => ?_)
  ·
    have hne := h1
    refine RC.seq ?_
    refine RC.region rfl ?_
    refine RL.ev (.assign rfl) rfl rfl ?_
    refine RL.nil (RC.back ?_)
    refine RC.done (rs := [.tmp 4]) (vs := [_]) rfl rfl ⟨rfl, trivial⟩ ?_
    -- end 1
    rw [decide_eq_false (fun e => hne (by rw [e]))]
    exact ⟨rfl, S⟩
  ·
    have heq := h1
    refine RC.skip (RC.back ?_)
    refine RC.seq ?_
    refine RC.seq ?_
    refine RC.region rfl ?_
    refine RL.ev (.move rfl) rfl rfl ?_
    refine RL.ev (.len sl23 rfl) rfl rfl ?_
    refine RL.ev (.move rfl) rfl rfl ?_
    refine RL.nil (RC.back ?_)
    refine RC.block ?_
    refine RC.loop (α := Nat) (fun i => [(0, .slice a l.length c), (1, .slice b m.length d), (12, .int .i64 (l.length : Int)), (13, .int .i64 (i : Int))]) (fun i w2 => i ≤ l.length ∧ (∀ j, j < i → l[j]? = m[j]?) ∧ Sub w w2) (fun i => l.length - i) 0 (keep_of (by repeat (first | exact trivial | refine And.intro rfl ?_))) (⟨Nat.zero_le _, fun j h => absurd h (Nat.not_lt_zero _), S⟩) (fun i w2 hJ => ?_)
    obtain ⟨hi, hp, S⟩ := hJ
    refine RC.seq ?_
    refine RC.region rfl ?_
    refine RL.ev (.bin rfl rfl rfl) rfl rfl ?_
    refine RL.nil (RC.back ?_)
    refine RC.seq ?_
    refine RC.cond_dec rfl (fun h3 => ?_) (fun h3 => ?_)
    ·
      obtain ⟨x, hx⟩ := getSome (l := l) (i := i) (by omega)
      obtain ⟨y, hy⟩ := getSome (l := m) (i := i) (by omega)
      refine RC.skip (RC.back ?_)
      refine RC.seq ?_
      refine RC.block ?_
      refine RC.seq ?_
      refine RC.region rfl ?_
      refine RL.ev (.move rfl) rfl rfl ?_
      refine RL.ev (.assign rfl) rfl rfl ?_
      refine RL.nil (RC.back ?_)
      refine RC.seq ?_
      refine RC.draw rfl mxo (by kernel_rfl) ?_
      refine RQ.ev (.move rfl) rfl rfl ?_
      refine RQ.ev (.move rfl) rfl rfl ?_
      refine RQ.ev (.indexS sl23 rfl rfl (by omega) (hl.is (i := 0) (by simp only [List.length_map]; omega))) rfl rfl ?_
      refine RQ.ev (.load1 sh3 rfl ((hl.sub S).one (enc := i6) (i := i) hx)) rfl rfl ?_
      refine RQ.ev (.move rfl) rfl rfl ?_
      refine RQ.ev (.move rfl) rfl rfl ?_
      refine RQ.ev (.indexS sl23 rfl rfl (by omega) (hm.is (i := 0) (by simp only [List.length_map]; omega))) rfl rfl ?_
      refine RQ.ev (.load1 sh3 rfl ((hm.sub S).one (enc := i6) (i := i) hy)) rfl rfl ?_
      refine RQ.ev (.bin rfl rfl rfl) rfl rfl ?_
      refine RQ.nil (fun w4 s5 => RC.back ?_)
      have S := S.trans s5
      refine RC.cond_dec rfl (fun h6 => ?_) (fun h6 => ?_)
      ·
        have hxy := h6
        refine RC.seq ?_
        refine RC.region rfl ?_
        refine RL.ev (.assign rfl) rfl rfl ?_
        refine RL.nil (RC.back ?_)
        refine RC.done (rs := [.tmp 4]) (vs := [_]) rfl rfl ⟨rfl, trivial⟩ ?_
        -- end 2
        rw [decide_eq_false (fun e => hxy (by rw [e, hy] at hx; cases hx; rfl))]
        exact ⟨rfl, S⟩
      ·
        have hxy := h6
        refine RC.skip (RC.back ?_)
        refine RC.region rfl ?_
        refine RL.ev (.as (.bin rfl rfl rfl) (wi64 (y := ((i + 1 : Nat) : Int)) (by omega) (by omega))) rfl rfl ?_
        refine RL.ev (.move rfl) rfl rfl ?_
        exact RL.nil (fun a ka => ⟨i + 1, ⟨by omega, fun j h => (Nat.lt_succ_iff_lt_or_eq.1 h).elim (hp j) (fun e => by rw [e, hx, hy, Decidable.not_not.1 hxy]), S⟩, by omega, ka.keep (keep_of (by repeat (first | exact trivial | refine And.intro rfl ?_)))⟩)
    ·
      obtain rfl : i = l.length := (by omega)
      refine RC.exit rfl (RC.back ?_)
      refine RC.seq ?_
      refine RC.region rfl ?_
      refine RL.ev (.assign rfl) rfl rfl ?_
      refine RL.nil (RC.back ?_)
      refine RC.done (rs := [.tmp 4]) (vs := [_]) rfl rfl ⟨rfl, trivial⟩ ?_
      -- end 3
      rw [decide_eq_true (ext_ints rfl (by omega) hp)]
      exact ⟨rfl, S⟩

/-- those that were seen -/
noncomputable def seenF (l : List Int) : Int → Option Value := fun r => if r ∈ l then some (.bool true) else none
theorem seenF_no {l : List Int} {r : Int} (h : r ∉ l) : seenF l r = none := if_neg h
theorem seenF_yes {l : List Int} {r : Int} (h : r ∈ l) : seenF l r = some (.bool true) := if_pos h
theorem seenF_add {l : List Int} {i : Nat} {z : Int} (h : l[i]? = some z) : (fun r => if r = z then some (Value.bool true) else seenF (l.take i) r) = seenF (l.take (i + 1)) := by
  funext r
  have hm : r ∈ l.take (i + 1) ↔ r ∈ l.take i ∨ r = z := by rw [List.take_add_one, h]; simp
  by_cases e : r = z
  · rw [if_pos e, seenF_yes (hm.2 (.inr e))]
  · rw [if_neg e]
    by_cases hr : r ∈ l.take i
    · rw [seenF_yes hr, seenF_yes (hm.2 (.inl hr))]
    · rw [seenF_no hr, seenF_no (fun h => (hm.1 h).elim hr e)]
theorem nodup_take {l : List Int} {i : Nat} {z : Int} (hn : l.Nodup) (h : l[i]? = some z) : z ∉ l.take i := by
  intro hm
  obtain ⟨j, hj⟩ := List.getElem?_of_mem hm
  have hji := lt_of_get hj
  rw [List.length_take] at hji
  rw [List.getElem?_take_of_lt (by omega)] at hj
  have := (List.getElem?_inj (by omega) hn).1 (hj.trans h.symm)
  omega
theorem reach_form {A : Ar} {l : List Int} {w w' : World} {v : Value} (h : ¬ AOk A ∧ v = .tuple #[.slice none 0 0, .int .i64 1] ∨
      AOk A ∧ ∃ a c, v = .tuple #[.slice a ((reachA A l).map fun x => [i6 x]).length c, .int .i64 0] ∧ (reachA A l).length ≤ c ∧ Pl A (reachA A l) ∧ ∀ N : Nat → Prop, (∀ k, N k → k < w.heap.size) → Imm N (fun u => Sl u a 1 ((reachA A l).map fun x => [i6 x])) w') :
    ∃ out a c e, v = .tuple #[.slice a out.length c, .int .i64 e] ∧ out.length ≤ c ∧ Pl A out ∧ (∀ N : Nat → Prop, (∀ k, N k → k < w.heap.size) → Imm N (fun u => Sl u a 1 (out.map fun x => [i6 x])) w') ∧ (AOk A → out = reachA A l ∧ e = 0) ∧ (¬ AOk A → out = [] ∧ e = 1) := by
  rcases h with ⟨h1, rfl⟩ | ⟨h1, a, c, rfl, h2, h3, h4⟩
  · exact ⟨[], none, 0, 1, rfl, by simp, Pl.nil A, fun _ _ _ _ => Sl.nil _ _ _, fun h => absurd h h1, fun _ => ⟨rfl, rfl⟩⟩
  · exact ⟨_, a, c, 0, by rw [List.length_map], h2, h3, h4, fun _ => ⟨rfl, rfl⟩, fun h => absurd h1 h⟩

theorem law_ArenaReaches (w : World) (A : Ar) (na fa : Option Addr) (nc fc : Nat) (hnc : A.nodes.length ≤ nc) (hfc : A.free.length ≤ fc) (hA : ArR w na fa A) (x : Int) (wx : (Lit.int .u64 x).wf = true) (y : Int) (wy : (Lit.int .u64 y).wf = true) :
    FC Try.prog 8 [arV na fa nc fc A, .int .u64 x, .int .u64 y] w (Val (.bool true) w) := by
  have hx := wfU wx
  have hy := wfU wy
  have hf40 : (fewA A).nodes.length ≤ 40 := by simp only [fewA, List.length_take]; omega
  have h2 : ∀ z ∈ [x, y], U64 z := fun z hz => by simp at hz; rcases hz with rfl | rfl; exact hx; exact hy
  have h3 : ∀ z ∈ [y, x], U64 z := fun z hz => by simp at hz; rcases hz with rfl | rfl; exact hy; exact hx
  have h4 : ∀ z ∈ [x], U64 z := fun z hz => by simp at hz; rcases hz with rfl; exact hx
  refine FC.intro Try.func8 rfl Try.ntmps8 rfl ?_
  have S := Sub.refl w
  have nb := NB.nil w
  have hI : Imm (fun _ => False) (fun u => ArR u na fa (fewA A)) w := fun u hu => fewA_R (hA.sub hu.sub)
  refine RC.seq ?_
  refine RC.region rfl ?_
  refine RL.box rfl rfl rfl (fun b_3 w_3 e_3 z_3 hb_3 s_3 => ?_)
  have ge_3 := S.le e_3
  have S := S.trans s_3
  have nb := nb.add s_3 e_3 z_3
  have hI := hI.add s_3 e_3
  have hb_3 : Has w_3 b_3 ([.slice na A.nodes.length nc, .slice fa A.free.length fc]) _ := hb_3
  refine RL.ev (.assign rfl) rfl rfl ?_
  refine RL.nil (RC.back ?_)
  refine RC.seq ?_
  refine RC.region rfl ?_
  refine RL.ev (.loadR ([.slice na A.nodes.length nc, .slice fa A.free.length fc]) sh25 rfl hb_3.row rfl) rfl rfl ?_
  refine RL.call rfl ok9 (c_few A na fa nc fc hnc hfc w_3) rfl rfl ?_
  rintro _ w1 ⟨rfl, s2⟩
  have S := S.trans s2
  have nb := nb.sub s2
  have hI := hI.sub s2
  have hb_3 := hb_3.sub s2
  refine RL.store sh25 rfl rfl rfl hb_3 (by exact Nat.le_of_ble_eq_true rfl) (by rfl) rfl (fun w3 z3 hb_3 a3 => ?_)
  have S := S.upd a3 ge_3
  have nb := nb.upd a3
  have hI := hI.upd a3 (.inr rfl)
  have hb_3 : Has w3 b_3 ([.slice na (fewA A).nodes.length nc, .slice fa (fewA A).free.length fc]) _ := hb_3.now (by kernel_rfl)
  refine RL.nil (RC.back ?_)
  refine RC.seq ?_
  refine RC.region rfl ?_
  refine RL.ev (.loadR ([.slice na (fewA A).nodes.length nc, .slice fa (fewA A).free.length fc]) sh25 rfl hb_3.row rfl) rfl rfl ?_
  refine RL.ev (.move rfl) rfl rfl ?_
  refine RL.ev (.move rfl) rfl rfl ?_
  refine RL.buildSliceN (vs := [_, _]) sl41 _ ze32 rfl ⟨rfl, rfl, trivial⟩ rfl rfl rfl rfl rfl rfl (fun b_24 w_24 e_24 z_24 hb_24 s_24 => ?_)
  have ge_24 := S.le e_24
  have n_3__24 := hb_3.ne e_24
  have S := S.trans s_24
  have nb := nb.sub s_24
  have hI := hI.sub s_24
  have hb_3 := hb_3.sub s_24
  refine RL.call rfl ok18 (c_aReach (fewA A) na fa nc fc [x, y] 2 rfl (some ⟨b_24, 0, none⟩) 2 (Nat.le_of_ble_eq_true rfl) h2 w_24 hI.now (Has.sl1 (enc := u6) (l := [x, y]) hb_24)) rfl rfl ?_
  rintro _ w4 ⟨s5, hr⟩
  obtain ⟨L, la, lc, le, rfl, hlc, hLp, hiL, hL0, hL1⟩ := reach_form hr
  have hL := hiL _ nb
  have S := S.trans s5
  have nb := nb.sub s5
  have hI := hI.sub s5
  have hb_3 := hb_3.sub s5
  have hb_24 := hb_24.sub s5
  refine RL.ev (.move rfl) rfl rfl ?_
  refine RL.ev (.extract rfl rfl) rfl rfl ?_
  refine RL.ev (.extract rfl rfl) rfl rfl ?_
  refine RL.ev (.assign rfl) rfl rfl ?_
  refine RL.ev (.assign rfl) rfl rfl ?_
  refine RL.nil (RC.back ?_)
  refine RC.seq ?_
  refine RC.region rfl ?_
  refine RL.ev (.loadR ([.slice na (fewA A).nodes.length nc, .slice fa (fewA A).free.length fc]) sh25 rfl hb_3.row rfl) rfl rfl ?_
  refine RL.ev (.move rfl) rfl rfl ?_
  refine RL.ev (.move rfl) rfl rfl ?_
  refine RL.buildSliceN (vs := [_, _]) sl41 _ ze32 rfl ⟨rfl, rfl, trivial⟩ rfl rfl rfl rfl rfl rfl (fun b_32 w_32 e_32 z_32 hb_32 s_32 => ?_)
  have ge_32 := S.le e_32
  have n_3__32 := hb_3.ne e_32
  have n_24__32 := hb_24.ne e_32
  have S := S.trans s_32
  have nb := nb.sub s_32
  have hI := hI.sub s_32
  have hb_3 := hb_3.sub s_32
  have hb_24 := hb_24.sub s_32
  have hL := hL.sub s_32
  refine RL.call rfl ok18 (c_aReach (fewA A) na fa nc fc [y, x] 2 rfl (some ⟨b_32, 0, none⟩) 2 (Nat.le_of_ble_eq_true rfl) h3 w_32 hI.now (Has.sl1 (enc := u6) (l := [y, x]) hb_32)) rfl rfl ?_
  rintro _ w6 ⟨s7, hr⟩
  obtain ⟨M, ma, mc, me, rfl, hmc, hMp, hiM, hM0, hM1⟩ := reach_form hr
  have hM := hiM _ nb
  have S := S.trans s7
  have nb := nb.sub s7
  have hI := hI.sub s7
  have hb_3 := hb_3.sub s7
  have hb_24 := hb_24.sub s7
  have hL := hL.sub s7
  have hb_32 := hb_32.sub s7
  refine RL.ev (.move rfl) rfl rfl ?_
  refine RL.ev (.extract rfl rfl) rfl rfl ?_
  refine RL.ev (.extract rfl rfl) rfl rfl ?_
  refine RL.ev (.assign rfl) rfl rfl ?_
  refine RL.ev (.assign rfl) rfl rfl ?_
  refine RL.nil (RC.back ?_)
  refine RC.seq ?_
  refine RC.region rfl ?_
  refine RL.ev (.loadR ([.slice na (fewA A).nodes.length nc, .slice fa (fewA A).free.length fc]) sh25 rfl hb_3.row rfl) rfl rfl ?_
  refine RL.ev (.move rfl) rfl rfl ?_
  refine RL.buildSlice1 sl41 _ ze32 rfl rfl rfl rfl rfl rfl rfl (fun b_39 w_39 e_39 z_39 hb_39 s_39 => ?_)
  have ge_39 := S.le e_39
  have n_3__39 := hb_3.ne e_39
  have n_24__39 := hb_24.ne e_39
  have n_32__39 := hb_32.ne e_39
  have S := S.trans s_39
  have nb := nb.sub s_39
  have hI := hI.sub s_39
  have hb_3 := hb_3.sub s_39
  have hb_24 := hb_24.sub s_39
  have hL := hL.sub s_39
  have hb_32 := hb_32.sub s_39
  have hM := hM.sub s_39
  refine RL.call rfl ok18 (c_aReach (fewA A) na fa nc fc [x] 1 rfl (some ⟨b_39, 0, none⟩) 1 (Nat.le_of_ble_eq_true rfl) h4 w_39 hI.now (Has.sl1 (enc := u6) (l := [x]) hb_39)) rfl rfl ?_
  rintro _ w8 ⟨s9, hr⟩
  obtain ⟨K, ka, kc, ke, rfl, hkc, hKp, hiK, hK0, hK1⟩ := reach_form hr
  have hK := hiK _ nb
  have S := S.trans s9
  have nb := nb.sub s9
  have hI := hI.sub s9
  have hb_3 := hb_3.sub s9
  have hb_24 := hb_24.sub s9
  have hL := hL.sub s9
  have hb_32 := hb_32.sub s9
  have hM := hM.sub s9
  have hb_39 := hb_39.sub s9
  refine RL.ev (.move rfl) rfl rfl ?_
  refine RL.ev (.extract rfl rfl) rfl rfl ?_
  refine RL.ev (.extract rfl rfl) rfl rfl ?_
  refine RL.ev (.assign rfl) rfl rfl ?_
  refine RL.ev (.assign rfl) rfl rfl ?_
  refine RL.nil (RC.back ?_)
  refine RC.seq ?_
  refine RC.seq ?_
  refine RC.region rfl ?_
  refine RL.ev (.loadR ([.slice na (fewA A).nodes.length nc, .slice fa (fewA A).free.length fc]) sh25 rfl hb_3.row rfl) rfl rfl ?_
  refine RL.call rfl ok11 (c_r4Right (fewA A) na fa nc fc w8 hI.now) rfl rfl ?_
  rintro _ w10 ⟨rfl, s11⟩
  have S := S.trans s11
  have nb := nb.sub s11
  have hI := hI.sub s11
  have hb_3 := hb_3.sub s11
  have hb_24 := hb_24.sub s11
  have hL := hL.sub s11
  have hb_32 := hb_32.sub s11
  have hM := hM.sub s11
  have hb_39 := hb_39.sub s11
  have hK := hK.sub s11
  refine RL.ev (.not rfl) rfl rfl ?_
  refine RL.nil (RC.back ?_)
  refine RC.cond rfl (fun h12 => ?_) (fun h12 => ?_)
  ·
    have hno : ¬ AOk (fewA A) := (fun h => by have h2 := h12; rw [aokB_yes h] at h2; cases h2)
    refine RC.seq ?_
    refine RC.region rfl ?_
    refine RL.call rfl ok12 (c_alive4 w10) rfl rfl ?_
    rintro _ w13 ⟨rfl, s14⟩
    have S := S.trans s14
    have nb := nb.sub s14
    have hI := hI.sub s14
    have hb_3 := hb_3.sub s14
    have hb_24 := hb_24.sub s14
    have hL := hL.sub s14
    have hb_32 := hb_32.sub s14
    have hM := hM.sub s14
    have hb_39 := hb_39.sub s14
    have hK := hK.sub s14
    refine RL.ev (.move rfl) rfl rfl ?_
    refine RL.ev (.move rfl) rfl rfl ?_
    refine RL.ev (.as (v' := .bool true) (.bin rfl rfl rfl) (congrArg Value.bool (decide_eq_true ((hL1 hno).2)))) rfl rfl ?_
    refine RL.ev (.pick_t rfl rfl) rfl rfl ?_
    refine RL.ev (.move rfl) rfl rfl ?_
    refine RL.ev (.move rfl) rfl rfl ?_
    refine RL.ev (.as (v' := .bool true) (.bin rfl rfl rfl) (congrArg Value.bool (decide_eq_true ((hM1 hno).2)))) rfl rfl ?_
    refine RL.ev (.pick_t rfl rfl) rfl rfl ?_
    refine RL.ev (.move rfl) rfl rfl ?_
    refine RL.ev (.move rfl) rfl rfl ?_
    refine RL.ev (.as (v' := .bool true) (.bin rfl rfl rfl) (congrArg Value.bool (decide_eq_true ((hK1 hno).2)))) rfl rfl ?_
    refine RL.ev (.pick_t rfl rfl) rfl rfl ?_
    refine RL.ev (.assign rfl) rfl rfl ?_
    refine RL.nil (RC.back ?_)
    refine RC.done (rs := [.tmp 6]) (vs := [_]) rfl rfl ⟨rfl, trivial⟩ ?_
    -- end 1
    exact ⟨rfl, S⟩
  ·
    have hok : AOk (fewA A) := (aokB_iff _).1 (by simpa using h12)
    obtain ⟨hLe, hle⟩ := hL0 hok
    obtain ⟨hMe, hme⟩ := hM0 hok
    obtain ⟨hKe, hke⟩ := hK0 hok
    have hsw := reachA_swap (A := fewA A) (by omega) x y
    rw [← hLe, ← hMe] at hsw
    obtain ⟨t, ht⟩ := reachA_two (fewA A) x y
    rw [← hLe, ← hKe] at ht
    have hlt : L.length = K.length + t.length := (by rw [ht, List.length_append])
    have hLlen := hLp.len
    have hswl := hsw.2
    refine RC.skip (RC.back ?_)
    refine RC.seq ?_
    refine RC.seq ?_
    refine RC.region rfl ?_
    refine RL.ev (.move rfl) rfl rfl ?_
    refine RL.ev (.as (v' := .bool false) (.bin rfl rfl rfl) (congrArg Value.bool (decide_eq_false (fun h => h hle)))) rfl rfl ?_
    refine RL.ev (.move rfl) rfl rfl ?_
    refine RL.ev (.move rfl) rfl rfl ?_
    refine RL.ev (.as (v' := .bool false) (.bin rfl rfl rfl) (congrArg Value.bool (decide_eq_false (fun h => h hme)))) rfl rfl ?_
    refine RL.ev (.pick_f rfl rfl) rfl rfl ?_
    refine RL.ev (.move rfl) rfl rfl ?_
    refine RL.ev (.move rfl) rfl rfl ?_
    refine RL.ev (.as (v' := .bool false) (.bin rfl rfl rfl) (congrArg Value.bool (decide_eq_false (fun h => h hke)))) rfl rfl ?_
    refine RL.ev (.pick_f rfl rfl) rfl rfl ?_
    refine RL.ev (.move rfl) rfl rfl ?_
    refine RL.ev (.move rfl) rfl rfl ?_
    refine RL.ev (.len sl23 rfl) rfl rfl ?_
    refine RL.ev (.move rfl) rfl rfl ?_
    refine RL.ev (.len sl23 rfl) rfl rfl ?_
    refine RL.ev (.as (v' := .bool false) (.bin rfl rfl rfl) (congrArg Value.bool (decide_eq_false (fun h => h (by omega))))) rfl rfl ?_
    refine RL.ev (.pick_f rfl rfl) rfl rfl ?_
    refine RL.ev (.move rfl) rfl rfl ?_
    refine RL.ev (.move rfl) rfl rfl ?_
    refine RL.ev (.len sl23 rfl) rfl rfl ?_
    refine RL.ev (.move rfl) rfl rfl ?_
    refine RL.ev (.len sl23 rfl) rfl rfl ?_
    refine RL.ev (.as (v' := .bool false) (.bin rfl rfl rfl) (congrArg Value.bool (decide_eq_false ((by omega))))) rfl rfl ?_
    refine RL.ev (.pick_f rfl rfl) rfl rfl ?_
    refine RL.ev (.move rfl) rfl rfl ?_
    refine RL.call rfl ok12 (c_alive4 w10) rfl rfl ?_
    rintro _ w15 ⟨rfl, s16⟩
    have S := S.trans s16
    have nb := nb.sub s16
    have hI := hI.sub s16
    have hb_3 := hb_3.sub s16
    have hb_24 := hb_24.sub s16
    have hL := hL.sub s16
    have hb_32 := hb_32.sub s16
    have hM := hM.sub s16
    have hb_39 := hb_39.sub s16
    have hK := hK.sub s16
    refine RL.ev (.not rfl) rfl rfl ?_
    refine RL.ev (.pick_f rfl rfl) rfl rfl ?_
    refine RL.nil (RC.back ?_)
    refine RC.cond_f rfl ?_
    refine RC.skip (RC.back ?_)
    refine RC.seq ?_
    refine RC.region rfl ?_
    refine RL.makeMap .i64 rfl rfl (fun b_87 w_87 e_87 z_87 hb_87 s_87 => ?_)
    have ge_87 := S.le e_87
    have n_3__87 := hb_3.ne e_87
    have n_24__87 := hb_24.ne e_87
    have n_32__87 := hb_32.ne e_87
    have n_39__87 := hb_39.ne e_87
    have S := S.trans s_87
    have nb := nb.add s_87 e_87 z_87
    have hI := hI.add s_87 e_87
    have hb_3 := hb_3.sub s_87
    have hb_24 := hb_24.sub s_87
    have hL := hL.add s_87 e_87
    have hb_32 := hb_32.sub s_87
    have hM := hM.add s_87 e_87
    have hb_39 := hb_39.sub s_87
    have hK := hK.add s_87 e_87
    refine RL.ev (.assign rfl) rfl rfl ?_
    refine RL.nil (RC.back ?_)
    refine RC.seq ?_
    refine RC.seq ?_
    refine RC.region rfl ?_
    refine RL.ev (.move rfl) rfl rfl ?_
    refine RL.ev (.len sl23 rfl) rfl rfl ?_
    refine RL.ev (.move rfl) rfl rfl ?_
    refine RL.nil (RC.back ?_)
    refine RC.block ?_
    refine RC.loop (α := Nat) (fun i => [(3, .pointer (some ⟨b_3, 0, none⟩)), (7, .slice la L.length lc), (9, .slice ma M.length mc), (11, .slice ka K.length kc), (13, .map (some b_87)), (88, .slice la L.length lc), (89, .int .i64 (L.length : Int)), (90, .int .i64 (i : Int))]) (fun i w17 => i ≤ L.length ∧ HasM w17 b_87 .i64 (seenF (L.take i)) ∧ b_3 ≠ b_87 ∧ Has w17 b_3 [.slice na (fewA A).nodes.length nc, .slice fa (fewA A).free.length fc] 25 ∧ Imm (Nadd (Nadd (fun _ => False) b_3) b_87) (fun u => ArR u na fa (fewA A)) w17 ∧ Imm (Nadd (Nadd (fun _ => False) b_3) b_87) (fun u => Sl u la 1 (L.map fun x => [i6 x])) w17 ∧ Imm (Nadd (Nadd (fun _ => False) b_3) b_87) (fun u => Sl u ma 1 (M.map fun x => [i6 x])) w17 ∧ Imm (Nadd (Nadd (fun _ => False) b_3) b_87) (fun u => Sl u ka 1 (K.map fun x => [i6 x])) w17 ∧ Sub w w17) (fun i => L.length - i) 0 (keep_of (by repeat (first | exact trivial | refine And.intro rfl ?_))) (⟨Nat.zero_le _, hb_87, n_3__87, hb_3, hI, hL, hM, hK, S⟩) (fun i w17 hJ => ?_)
    obtain ⟨hi, hb_87, n_3__87, hb_3, hI, hL, hM, hK, S⟩ := hJ
    refine RC.seq ?_
    refine RC.region rfl ?_
    refine RL.ev (.bin rfl rfl rfl) rfl rfl ?_
    refine RL.nil (RC.back ?_)
    refine RC.seq ?_
    refine RC.cond_dec rfl (fun h18 => ?_) (fun h18 => ?_)
    ·
      obtain ⟨z, hz⟩ := getSome (l := L) (i := i) (by omega)
      have hzr := hLp.rng z (List.mem_of_getElem? hz)
      have hzn := nodup_take hLp.nd hz
      obtain ⟨q, hq, hqk⟩ := Rea.node ((reachA_iff (by omega) _ z).1 (hLe ▸ List.mem_of_getElem? hz))
      refine RC.skip (RC.back ?_)
      refine RC.seq ?_
      refine RC.block ?_
      refine RC.seq ?_
      refine RC.region rfl ?_
      refine RL.ev (.indexS sl23 rfl rfl (by omega) (hL.now.is (i := 0) (by simp only [List.length_map]; omega))) rfl rfl ?_
      refine RL.ev (.load1 sh3 rfl (hL.now.one (enc := i6) (i := i) hz)) rfl rfl ?_
      refine RL.ev (.assign rfl) rfl rfl ?_
      refine RL.nil (RC.back ?_)
      refine RC.seq ?_
      refine RC.seq ?_
      refine RC.region rfl ?_
      refine RL.ev (.move rfl) rfl rfl ?_
      refine RL.ev (.move rfl) rfl rfl ?_
      refine RL.ev (.as (v' := .bool false) (.lookup Try.underlying60 Try.underlying3 ze4 rfl rfl hb_87) (by rw [seenF_no hzn]; rfl)) rfl rfl ?_
      refine RL.ev (.move rfl) rfl rfl ?_
      refine RL.ev (.move rfl) rfl rfl ?_
      refine RL.ev (.as (v' := .bool false) (.bin rfl rfl rfl) (congrArg Value.bool (decide_eq_false ((by omega))))) rfl rfl ?_
      refine RL.ev (.pick_f rfl rfl) rfl rfl ?_
      refine RL.ev (.move rfl) rfl rfl ?_
      refine RL.ev (.move rfl) rfl rfl ?_
      refine RL.ev (.field0 fo25_0 rfl) rfl rfl ?_
      refine RL.ev (.load1 sh22 rfl (hb_3.cell rfl)) rfl rfl ?_
      refine RL.ev (.len sl22 rfl) rfl rfl ?_
      refine RL.ev (.as (v' := .bool false) (.bin rfl rfl rfl) (congrArg Value.bool (decide_eq_false ((by omega))))) rfl rfl ?_
      refine RL.ev (.pick_f rfl rfl) rfl rfl ?_
      refine RL.ev (.move rfl) rfl rfl ?_
      refine RL.ev (.field0 fo25_0 rfl) rfl rfl ?_
      refine RL.ev (.load1 sh22 rfl (hb_3.cell rfl)) rfl rfl ?_
      refine RL.ev (.move rfl) rfl rfl ?_
      refine RL.ev (.indexS sl22 rfl rfl (by omega) (hI.now.nodes.is (i := 0) (by simp only [List.length_map]; omega))) rfl rfl ?_
      refine RL.ev (.fieldA fo35_0 rfl) rfl rfl ?_
      refine RL.ev (.load1 sh3 rfl (hI.now.nodes.cell (enc := Node.cells) (j := 0) hq rfl)) rfl rfl ?_
      refine RL.ev (.as (v' := .bool false) (.bin rfl rfl rfl) (congrArg Value.bool (decide_eq_false (hqk)))) rfl rfl ?_
      refine RL.ev (.pick_f rfl rfl) rfl rfl ?_
      refine RL.nil (RC.back ?_)
      refine RC.cond_f rfl ?_
      refine RC.skip (RC.back ?_)
      refine RC.region rfl ?_
      refine RL.ev (.move rfl) rfl rfl ?_
      refine RL.ev (.move rfl) rfl rfl ?_
      refine RL.mapUpdate Try.underlying60 Try.underlying3 rfl rfl rfl hb_87 rfl (fun w19 z19 hb_87 a19 => ?_)
      have S := S.upd a19 ge_87
      have hb_3 := hb_3.upd a19 n_3__87
      have hI := hI.upd a19 (.inr rfl)
      have hL := hL.upd a19 (.inr rfl)
      have hM := hM.upd a19 (.inr rfl)
      have hK := hK.upd a19 (.inr rfl)
      refine RL.nil (RC.back ?_)
      refine RC.region rfl ?_
      refine RL.ev (.as (.bin rfl rfl rfl) (wi64 (y := ((i + 1 : Nat) : Int)) (by omega) (by omega))) rfl rfl ?_
      refine RL.ev (.move rfl) rfl rfl ?_
      exact RL.nil (fun a ka => ⟨i + 1, ⟨by omega, seenF_add hz ▸ hb_87, n_3__87, hb_3, hI, hL, hM, hK, S⟩, by omega, ka.keep (keep_of (by repeat (first | exact trivial | refine And.intro rfl ?_)))⟩)
    ·
      obtain rfl : i = L.length := (by omega)
      rw [List.take_length] at hb_87
      refine RC.exit rfl (RC.back ?_)
      refine RC.seq ?_
      refine RC.seq ?_
      refine RC.region rfl ?_
      refine RL.ev (.move rfl) rfl rfl ?_
      refine RL.ev (.len sl23 rfl) rfl rfl ?_
      refine RL.ev (.move rfl) rfl rfl ?_
      refine RL.nil (RC.back ?_)
      refine RC.block ?_
      refine RC.loop (α := Nat) (fun j => [(7, .slice la L.length lc), (11, .slice ka K.length kc), (13, .map (some b_87)), (120, .slice ma M.length mc), (121, .int .i64 (M.length : Int)), (122, .int .i64 (j : Int))]) (fun j w20 => j ≤ M.length ∧ HasM w20 b_87 .i64 (seenF L) ∧ Imm (Nadd (Nadd (fun _ => False) b_3) b_87) (fun u => Sl u la 1 (L.map fun x => [i6 x])) w20 ∧ Imm (Nadd (Nadd (fun _ => False) b_3) b_87) (fun u => Sl u ma 1 (M.map fun x => [i6 x])) w20 ∧ Imm (Nadd (Nadd (fun _ => False) b_3) b_87) (fun u => Sl u ka 1 (K.map fun x => [i6 x])) w20 ∧ Sub w w20) (fun j => M.length - j) 0 (keep_of (by repeat (first | exact trivial | refine And.intro rfl ?_))) (⟨Nat.zero_le _, hb_87, hL, hM, hK, S⟩) (fun j w20 hJ => ?_)
      obtain ⟨hj, hb_87, hL, hM, hK, S⟩ := hJ
      refine RC.seq ?_
      refine RC.region rfl ?_
      refine RL.ev (.bin rfl rfl rfl) rfl rfl ?_
      refine RL.nil (RC.back ?_)
      refine RC.seq ?_
      refine RC.cond_dec rfl (fun h21 => ?_) (fun h21 => ?_)
      ·
        obtain ⟨z, hz⟩ := getSome (l := M) (i := j) (by omega)
        refine RC.skip (RC.back ?_)
        refine RC.seq ?_
        refine RC.block ?_
        refine RC.seq ?_
        refine RC.region rfl ?_
        refine RL.ev (.indexS sl23 rfl rfl (by omega) (hM.now.is (i := 0) (by simp only [List.length_map]; omega))) rfl rfl ?_
        refine RL.ev (.load1 sh3 rfl (hM.now.one (enc := i6) (i := j) hz)) rfl rfl ?_
        refine RL.ev (.assign rfl) rfl rfl ?_
        refine RL.nil (RC.back ?_)
        refine RC.seq ?_
        refine RC.region rfl ?_
        refine RL.ev (.move rfl) rfl rfl ?_
        refine RL.ev (.move rfl) rfl rfl ?_
        refine RL.ev (.as (v' := .bool true) (.lookup Try.underlying60 Try.underlying3 ze4 rfl rfl hb_87) (by rw [seenF_yes ((hsw.1 z).2 (List.mem_of_getElem? hz))]; rfl)) rfl rfl ?_
        refine RL.ev (.not rfl) rfl rfl ?_
        refine RL.nil (RC.back ?_)
        refine RC.cond_f rfl ?_
        refine RC.skip (RC.back ?_)
        refine RC.region rfl ?_
        refine RL.ev (.as (.bin rfl rfl rfl) (wi64 (y := ((j + 1 : Nat) : Int)) (by omega) (by omega))) rfl rfl ?_
        refine RL.ev (.move rfl) rfl rfl ?_
        exact RL.nil (fun a ka => ⟨j + 1, ⟨by omega, hb_87, hL, hM, hK, S⟩, by omega, ka.keep (keep_of (by repeat (first | exact trivial | refine And.intro rfl ?_)))⟩)
      ·
        obtain rfl : j = M.length := (by omega)
        have hLc : (L.take K.length).map (fun x => [i6 x]) = (L.map fun x => [i6 x]).take K.length := List.map_take
        have hLt : L.take K.length = K := (by rw [ht, List.take_left])
        refine RC.exit rfl (RC.back ?_)
        refine RC.seq ?_
        refine RC.region rfl ?_
        refine RL.ev (.move rfl) rfl rfl ?_
        refine RL.ev (.move rfl) rfl rfl ?_
        refine RL.ev (.len sl23 rfl) rfl rfl ?_
        refine RL.ev (.as (v' := .slice la K.length lc) (.sliceHi sl23 rfl rfl (by omega)) (by rw [Int.toNat_natCast])) rfl rfl ?_
        refine RL.ev (.move rfl) rfl rfl ?_
        refine RL.call rfl ok21 (c_sameInts (L.take K.length) K la ka lc kc K.length K.length (by rw [hLt]) rfl w20 (hLc ▸ hL.now.take _) hK.now (by rw [hLt]; omega)) rfl rfl ?_
        rintro _ w22 ⟨rfl, s23⟩
        have S := S.trans s23
        have hb_87 := hb_87.sub s23
        have hL := hL.sub s23
        have hM := hM.sub s23
        have hK := hK.sub s23
        refine RL.ev (.assign rfl) rfl rfl ?_
        refine RL.nil (RC.back ?_)
        refine RC.done (rs := [.tmp 6]) (vs := [_]) rfl rfl ⟨rfl, trivial⟩ ?_
        -- end 2
        exact ⟨congrArg (fun b => tup [.bool b]) (decide_eq_true hLt), S⟩
end Go.Proofs.Ytfcmbojlflgpmaa
