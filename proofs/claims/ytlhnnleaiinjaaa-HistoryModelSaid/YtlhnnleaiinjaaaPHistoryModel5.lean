/-
  What the law HistoryModel leans on, part 5.
-/
import Derived.Test.YtlhnnleaiinjaaaPHistoryModel4
set_option linter.unusedVariables false
set_option linter.unusedSimpArgs false
namespace Go.Proofs.Ytlhnnleaiinjaaa
open Go Go.XL
theorem m0_right : rightM m0 := by
  rw [rightM_iff]
  refine ⟨fun i x y h => by simp [m0] at h, fun x h => by simp [m0] at h, ⟨fun x h => by simp [m0] at h, by decide⟩, ⟨fun x h => by simp [m0] at h, by decide⟩, ⟨fun x h => by simp [m0] at h, by decide⟩, by decide, List.Pairwise.nil, List.Pairwise.nil⟩
instance (l : List En) (i j : Int) : Decidable (laterP l i j) := by unfold laterP; infer_instance
theorem fitsT_step {l : List En} {o : List Int} {i : Nat} {x : Int} (hx : o[i]? = some x) : fitsT l (o.take (i + 1)) ↔ fitsT l (o.take i) ∧ ∀ j ∈ o.take i, ¬ laterP l j x := by
  unfold fitsT
  rw [List.take_add_one, hx, List.pairwise_append]
  simp
theorem fitsT_sub {l : List En} {o : List Int} (i : Nat) (h : fitsT l o) : fitsT l (o.take i) := List.Pairwise.sublist (List.take_sublist _ _) h
noncomputable def orderM (l : List En) : List Int × Int := cond (pB (rightH l ∧ l.length ≤ 8)) (match tryM l l.length [] m0 with | some r => (r, 0) | none => ([], 3)) ([], 1)
theorem orderM_no {l : List En} (h : ¬ (rightH l ∧ l.length ≤ 8)) : orderM l = ([], 1) := by unfold orderM; rw [pB_no h]; rfl
theorem orderM_some {l : List En} (h : rightH l ∧ l.length ≤ 8) {r : List Int} (hr : tryM l l.length [] m0 = some r) : orderM l = (r, 0) := by unfold orderM; rw [pB_yes h, hr]; rfl
theorem orderM_none {l : List En} (h : rightH l ∧ l.length ≤ 8) (hr : tryM l l.length [] m0 = none) : orderM l = ([], 3) := by unfold orderM; rw [pB_yes h, hr]; rfl
def AnsO (w w' : World) (q : List Int × Int) (u : Value) : Prop := Sub w w' ∧ ∃ a c, u = .tuple #[.slice a (q.1.map fun x => [i6 x]).length c, .int .i64 q.2] ∧ q.1.length ≤ c ∧ Sl w' a 1 (q.1.map fun x => [i6 x])
theorem c_Order (l : List En) (la : Option Addr) (lc m : Nat) (hm : m = l.length) (hlen : l.length ≤ 1000) (w : World) (hl : Sl w la 10 (l.map En.cells)) :
    FC Try.prog 7 [.slice la m lc] w (fun u w' => AnsO w w' (orderM l) u) := by
  subst hm
  refine FC.intro Try.func7 rfl Try.ntmps7 rfl ?_
  have S := Sub.refl w
  refine RC.seq ?_
  refine RC.region rfl ?_
  refine RL.box rfl rfl rfl (fun b_1 w_1 e_1 z_1 hb_1 s_1 => ?_)
  have ge_1 := S.le e_1
  have S := S.trans s_1
  refine RL.ev (.assign rfl) rfl rfl ?_
  refine RL.ev (.assign rfl) rfl rfl ?_
  refine RL.nil (RC.back ?_)
  refine RC.seq ?_
  refine RC.seq ?_
  refine RC.region rfl ?_
  refine RL.ev (.load1 sh22 rfl (hb_1.cell rfl)) rfl rfl ?_
  refine RL.call rfl ok13 (c_hRight l la lc _ rfl w_1 (hl.sub S) (by omega)) rfl rfl ?_
  rintro _ w1 ⟨rfl, s2⟩
  have S := S.trans s2
  have hb_1 := hb_1.sub s2
  refine RL.ev (.not rfl) rfl rfl ?_
  refine RL.ev (.move rfl) rfl rfl ?_
  refine RL.splitB 9 rfl (fun h3 => ?_) (fun h3 => ?_)
  ·
    have g9 : ¬ rightH l := (fun e => by rw [pB_yes e] at h3; cases h3)
    refine RL.off rfl rfl ?_
    refine RL.off rfl rfl ?_
    refine RL.off rfl rfl ?_
    refine RL.ev (.pick_t rfl rfl) rfl rfl ?_
    refine RL.nil (RC.back ?_)
    refine RC.cond_t rfl ?_
    refine RC.seq ?_
    refine RC.region rfl ?_
    refine RL.ev (.assign rfl) rfl rfl ?_
    refine RL.ev (.assign rfl) rfl rfl ?_
    refine RL.nil (RC.back ?_)
    refine RC.done (rs := [.tmp 2, .tmp 3]) (vs := [_, _]) rfl rfl ⟨rfl, rfl, trivial⟩ ?_
    -- end 1
    rw [orderM_no (fun e => g9 e.1)]
    exact ⟨S, none, 0, rfl, Nat.le_refl _, Sl.nil _ _ _⟩
  ·
    have g9 : rightH l := (by have q := h3; rw [Bool.not_eq_false'] at q; exact pB_iff.1 q)
    refine RL.ev (.load1 sh22 rfl (hb_1.cell rfl)) rfl rfl ?_
    refine RL.ev (.len sl22 rfl) rfl rfl ?_
    refine RL.ev (.bin rfl rfl rfl) rfl rfl ?_
    refine RL.ev (.pick_f rfl rfl) rfl rfl ?_
    refine RL.nil (RC.back ?_)
    refine RC.cond_dec rfl (fun h4 => ?_) (fun h4 => ?_)
    ·
      have g13 : ¬ l.length ≤ 8 := (by omega)
      refine RC.seq ?_
      refine RC.region rfl ?_
      refine RL.ev (.assign rfl) rfl rfl ?_
      refine RL.ev (.assign rfl) rfl rfl ?_
      refine RL.nil (RC.back ?_)
      refine RC.done (rs := [.tmp 2, .tmp 3]) (vs := [_, _]) rfl rfl ⟨rfl, rfl, trivial⟩ ?_
      -- end 2
      rw [orderM_no (fun e => g13 e.2)]
      exact ⟨S, none, 0, rfl, Nat.le_refl _, Sl.nil _ _ _⟩
    ·
      have g13 : rightH l ∧ l.length ≤ 8 := ⟨g9, by omega⟩
      refine RC.skip (RC.back ?_)
      refine RC.seq ?_
      refine RC.region rfl ?_
      refine RL.alloc ze23 rfl rfl (fun b_4 w_4 e_4 z_4 hb_4 s_4 => ?_)
      have ge_4 := S.le e_4
      have n_1__4 := hb_1.ne e_4
      have S := S.trans s_4
      have hb_1 := hb_1.sub s_4
      refine RL.nil (RC.back ?_)
      refine RC.seq ?_
      refine RC.region rfl ?_
      refine RL.alloc ze51 rfl rfl (fun b_5 w_5 e_5 z_5 hb_5 s_5 => ?_)
      have ge_5 := S.le e_5
      have n_1__5 := hb_1.ne e_5
      have n_4__5 := hb_4.ne e_5
      have S := S.trans s_5
      have hb_1 := hb_1.sub s_5
      have hb_4 := hb_4.sub s_5
      refine RL.nil (RC.back ?_)
      refine RC.seq ?_
      refine RC.region rfl ?_
      refine RL.ev (.func (xs := []) (ys := [_, _, _]) rfl rfl) rfl rfl ?_
      refine RL.store sh51 rfl rfl rfl hb_5 (by exact Nat.le_of_ble_eq_true rfl) (by rfl) rfl (fun w5 z5 hb_5 a5 => ?_)
      have S := S.upd a5 ge_5
      have hb_1 := hb_1.upd a5 n_1__5
      have hb_4 := hb_4.upd a5 n_4__5
      have hb_5 : Has w5 b_5 ([.func (.func 17) #[] #[.pointer (some ⟨b_4, 0, none⟩), .pointer (some ⟨b_1, 0, none⟩), .pointer (some ⟨b_5, 0, none⟩)]]) _ := hb_5
      refine RL.nil (RC.back ?_)
      refine RC.seq ?_
      refine RC.seq ?_
      refine RC.region rfl ?_
      refine RL.ev (.load1 sh51 rfl (hb_5.cell rfl)) rfl rfl ?_
      refine RL.ev (.as (v' := moV p0 m0) (.buildS ze38 pl38 rfl rfl) (by rfl)) rfl rfl ?_
      refine RL.callv rfl rfl (us := []) (cs := [.pointer (some ⟨b_4, 0, none⟩), .pointer (some ⟨b_1, 0, none⟩), .pointer (some ⟨b_5, 0, none⟩)]) ok17 (c_try l la lc b_4 b_1 b_5 w hl hlen g9 n_1__4.symm n_4__5 n_1__5 ge_4 ge_1 ge_5 l.length [] m0 p0 (fun _ => False) none 0 w5 (by simp) (by simp) m0_right ⟨Nat.le_refl _, Nat.le_refl _, Nat.le_refl _, Nat.le_refl _, Nat.zero_le _, Nat.zero_le _, Nat.zero_le _, Nat.zero_le _⟩ ⟨S, hb_1, hb_5, hb_4, Ows.nil _ _ _ _, ⟨fun k hk => hk.elim, fun u _ => ⟨Sl.nil _ _ _, Sl.nil _ _ _, Sl.nil _ _ _, Sl.nil _ _ _⟩⟩, fun k hk => obNil hk, fun k hk => obNil hk, fun k hk => obNil hk, fun k hk => hk.elim, fun k hk => obNil hk, fun k hk => hk.elim, fun k hk => hk.elim⟩) rfl rfl ?_
      rintro _ w6 ⟨oa3, oc3, rfl, S', hb_4', ow3, a17, _⟩
      have S := S'
      have hb_4 := hb_4'
      refine RL.ev (.not rfl) rfl rfl ?_
      refine RL.nil (RC.back ?_)
      refine RC.cond rfl (fun h8 => ?_) (fun h8 => ?_)
      ·
        have hnone : tryM l l.length [] m0 = none := (by have q := h8; simpa using q)
        refine RC.seq ?_
        refine RC.region rfl ?_
        refine RL.ev (.assign rfl) rfl rfl ?_
        refine RL.ev (.assign rfl) rfl rfl ?_
        refine RL.nil (RC.back ?_)
        refine RC.done (rs := [.tmp 2, .tmp 3]) (vs := [_, _]) rfl rfl ⟨rfl, rfl, trivial⟩ ?_
        -- end 3
        rw [orderM_none g13 hnone]
        exact ⟨S, none, 0, rfl, Nat.le_refl _, Sl.nil _ _ _⟩
      ·
        obtain ⟨rr, hsome⟩ : ∃ rr, tryM l l.length [] m0 = some rr := Option.isSome_iff_exists.1 (by have q := h8; simpa using q)
        rw [hsome] at hb_4 ow3
        refine RC.skip (RC.back ?_)
        refine RC.seq ?_
        refine RC.region rfl ?_
        refine RL.ev (.load1 sh23 rfl (hb_4.cell rfl)) rfl rfl ?_
        refine RL.ev (.assign rfl) rfl rfl ?_
        refine RL.ev (.assign rfl) rfl rfl ?_
        refine RL.nil (RC.back ?_)
        refine RC.done (rs := [.tmp 2, .tmp 3]) (vs := [_, _]) rfl rfl ⟨rfl, rfl, trivial⟩ ?_
        -- end 4
        rw [orderM_some g13 hsome]
        exact ⟨S, oa3, oc3, rfl, (by obtain ⟨_, _, e, hh⟩ := ow3.form; cases e; rw [List.length_map] at hh; exact hh), ow3.sl.1⟩
theorem c_fits1 (l : List En) (la : Option Addr) (lc : Nat) (bl bi : Nat) (i j : Int) (hi : 0 ≤ i ∧ i < l.length) (hj : 0 ≤ j ∧ j < l.length) (w : World) (hbi : Has w bi [i6 i] 3) (hbl : Has w bl [.slice la l.length lc] 22) (hl : Sl w la 10 (l.map En.cells)) :
    FC Try.prog 28 [.int .i64 j, .pointer (some ⟨bl, 0, none⟩), .pointer (some ⟨bi, 0, none⟩)] w (Val (.bool (decide (laterP l j i))) w) := by
  obtain ⟨jn, rfl⟩ := Int.eq_ofNat_of_zero_le hj.1
  obtain ⟨y, hy⟩ := getSome (l := l) (i := jn) (by omega)
  obtain ⟨en, rfl⟩ := Int.eq_ofNat_of_zero_le hi.1
  obtain ⟨x, hx⟩ := getSome (l := l) (i := en) (by omega)
  refine FC.intro Try.func28 rfl Try.ntmps28 rfl ?_
  have S := Sub.refl w
  refine RC.seq ?_
  refine RC.region rfl ?_
  refine RL.ev (.assign rfl) rfl rfl ?_
  refine RL.nil (RC.back ?_)
  refine RC.seq ?_
  refine RC.draw rfl mxo (by kernel_rfl) ?_
  refine RQ.ev (.load1 sh22 rfl (hbl.cell rfl)) rfl rfl ?_
  refine RQ.ev (.load1 sh3 rfl (hbi.cell rfl)) rfl rfl ?_
  refine RQ.ev (.indexS sl22 rfl rfl (by omega) (hl.is (i := 0) (by simp only [List.length_map, List.length_cons, List.length_nil]; omega))) rfl rfl ?_
  refine RQ.ev (.loadR (x.cells) sh48 rfl (hl.rowAt (enc := En.cells) (i := en) hx) rfl) rfl rfl ?_
  refine RQ.ev (.load1 sh22 rfl (hbl.cell rfl)) rfl rfl ?_
  refine RQ.ev (.move rfl) rfl rfl ?_
  refine RQ.ev (.indexS sl22 rfl rfl (by omega) (hl.is (i := 0) (by simp only [List.length_map, List.length_cons, List.length_nil]; omega))) rfl rfl ?_
  refine RQ.ev (.loadR (y.cells) sh48 rfl (hl.rowAt (enc := En.cells) (i := jn) hy) rfl) rfl rfl ?_
  refine RQ.call rfl ok20 (fun w' s' => c_ahead x y w') rfl rfl ?_
  refine RQ.ev (.assign rfl) rfl rfl ?_
  refine RQ.nil (fun w1 s2 => RC.back ?_)
  have S := S.trans s2
  have hbi := hbi.sub s2
  have hbl := hbl.sub s2
  refine RC.done (rs := [.tmp 4]) (vs := [_]) rfl rfl ⟨rfl, trivial⟩ ?_
  -- end 1
  refine ⟨congrArg Value.bool (decide_eq_decide.2 ?_), S⟩
  unfold laterP
  rw [enAt_get hx, enAt_get hy]
theorem playM_step {l : List En} {o : List Int} {i : Nat} {x : Int} {m : Mo} (hx : o[i]? = some x) (h : playM m0 ((o.take i).map (enAt l)) = some m) : playM m0 ((o.take (i + 1)).map (enAt l)) = if (ansM m (enAt l x)).2 then some (ansM m (enAt l x)).1 else none := by
  rw [List.take_add_one, hx, List.map_append, playM_app, h]
  simp [playM]
theorem playM_dead {l : List En} {o : List Int} {i : Nat} (h : playM m0 ((o.take i).map (enAt l)) = none) : playM m0 (o.map (enAt l)) = none := by
  conv => lhs; rw [← List.take_append_drop i o]
  rw [List.map_append, playM_app, h]; rfl
set_option maxHeartbeats 1000000 in
theorem c_Fits (l : List En) (la : Option Addr) (lc m : Nat) (hm : m = l.length) (hlen : l.length ≤ 1000) (o : List Int) (oa : Option Addr) (oc n : Nat) (hn : n = o.length) (hoc : o.length ≤ oc) (hol : o.length ≤ 1000) (w : World) (hl : Sl w la 10 (l.map En.cells)) (ho : Sl w oa 1 (o.map fun x => [i6 x])) :
    FC Try.prog 14 [.slice la m lc, .slice oa n oc] w (Val (.int .i64 (fitsM l o)) w) := by
  subst hm hn
  refine FC.intro Try.func14 rfl Try.ntmps14 rfl ?_
  have S := Sub.refl w
  refine RC.seq ?_
  refine RC.region rfl ?_
  refine RL.box rfl rfl rfl (fun b_2 w_2 e_2 z_2 hb_2 s_2 => ?_)
  have ge_2 := S.le e_2
  have S := S.trans s_2
  refine RL.ev (.assign rfl) rfl rfl ?_
  refine RL.nil (RC.back ?_)
  refine RC.scope ?_
  refine RC.seq ?_
  refine RC.seq ?_
  refine RC.region rfl ?_
  refine RL.ev (.load1 sh22 rfl (hb_2.cell rfl)) rfl rfl ?_
  refine RL.call rfl ok13 (c_hRight l la lc _ rfl w_2 (hl.sub S) (by omega)) rfl rfl ?_
  rintro _ w1 ⟨rfl, s2⟩
  have S := S.trans s2
  have hb_2 := hb_2.sub s2
  refine RL.ev (.not rfl) rfl rfl ?_
  refine RL.ev (.move rfl) rfl rfl ?_
  refine RL.splitB 18 rfl (fun h3 => ?_) (fun h3 => ?_)
  ·
    have g18 : ¬ rightH l := (fun e => by rw [pB_yes e] at h3; cases h3)
    refine RL.off rfl rfl ?_
    refine RL.off rfl rfl ?_
    refine RL.off rfl rfl ?_
    refine RL.off rfl rfl ?_
    refine RL.off rfl rfl ?_
    refine RL.ev (.pick_t rfl rfl) rfl rfl ?_
    refine RL.nil (RC.back ?_)
    refine RC.cond_t rfl ?_
    refine RC.seq ?_
    refine RC.region rfl ?_
    refine RL.ev (.assign rfl) rfl rfl ?_
    refine RL.nil (RC.back ?_)
    refine RC.done (rs := [.tmp 4]) (vs := [_]) rfl rfl ⟨rfl, trivial⟩ ?_
    -- end 1
    rw [fitsM_no (fun e => g18 e.1)]
    exact ⟨rfl, S⟩
  ·
    have g18 : rightH l := (by have q := h3; rw [Bool.not_eq_false'] at q; exact pB_iff.1 q)
    refine RL.ev (.move rfl) rfl rfl ?_
    refine RL.ev (.len sl23 rfl) rfl rfl ?_
    refine RL.ev (.load1 sh22 rfl (hb_2.cell rfl)) rfl rfl ?_
    refine RL.ev (.len sl22 rfl) rfl rfl ?_
    refine RL.ev (.bin rfl rfl rfl) rfl rfl ?_
    refine RL.ev (.pick_f rfl rfl) rfl rfl ?_
    refine RL.nil (RC.back ?_)
    refine RC.cond_dec rfl (fun h4 => ?_) (fun h4 => ?_)
    ·
      have g24 : ¬ o.length = l.length := (by omega)
      refine RC.seq ?_
      refine RC.region rfl ?_
      refine RL.ev (.assign rfl) rfl rfl ?_
      refine RL.nil (RC.back ?_)
      refine RC.done (rs := [.tmp 4]) (vs := [_]) rfl rfl ⟨rfl, trivial⟩ ?_
      -- end 2
      rw [fitsM_no (fun e => g24 e.2.1)]
      exact ⟨rfl, S⟩
    ·
      have g24 : o.length = l.length := (by omega)
      refine RC.skip (RC.back ?_)
      refine RC.seq ?_
      refine RC.label (RC.back ?_)
      refine RC.seq ?_
      refine RC.seq ?_
      refine RC.region rfl ?_
      refine RL.ev (.load1 sh22 rfl (hb_2.cell rfl)) rfl rfl ?_
      refine RL.ev (.len sl22 rfl) rfl rfl ?_
      refine RL.ev (.move rfl) rfl rfl ?_
      refine RL.nil (RC.back ?_)
      refine RC.block ?_
      refine RC.loop (α := Nat) (fun i => [(1, .slice oa o.length oc), (2, .pointer (some ⟨b_2, 0, none⟩)), (26, .int .i64 (l.length : Int)), (27, .int .i64 (i : Int))]) (fun i w5 => (i ≤ l.length ∧ ∀ j : Nat, j < i → (j : Int) ∈ o) ∧ Has w5 b_2 [.slice la l.length lc] 22 ∧ Sub w w5) (fun i => l.length - i) 0 (keep_of (by repeat (first | exact trivial | refine And.intro rfl ?_))) (⟨⟨Nat.zero_le _, fun j h => absurd h (Nat.not_lt_zero _)⟩, hb_2, S⟩) (fun i w5 hJ => ?_)
      obtain ⟨⟨hi, hall⟩, hb_2, S⟩ := hJ
      refine RC.seq ?_
      refine RC.region rfl ?_
      refine RL.ev (.bin rfl rfl rfl) rfl rfl ?_
      refine RL.nil (RC.back ?_)
      refine RC.seq ?_
      refine RC.cond_dec rfl (fun h6 => ?_) (fun h6 => ?_)
      ·
        have hil : i < l.length := (by omega)
        refine RC.skip (RC.back ?_)
        refine RC.seq ?_
        refine RC.block ?_
        refine RC.seq ?_
        refine RC.region rfl ?_
        refine RL.ev (.move rfl) rfl rfl ?_
        refine RL.ev (.assign rfl) rfl rfl ?_
        refine RL.nil (RC.back ?_)
        refine RC.seq ?_
        refine RC.seq ?_
        refine RC.region rfl ?_
        refine RL.ev (.move rfl) rfl rfl ?_
        refine RL.ev (.len sl23 rfl) rfl rfl ?_
        refine RL.ev (.move rfl) rfl rfl ?_
        refine RL.nil (RC.back ?_)
        refine RC.block ?_
        refine RC.loop (α := Nat) (fun j => [(1, .slice oa o.length oc), (2, .pointer (some ⟨b_2, 0, none⟩)), (5, .int .i64 (i : Int)), (26, .int .i64 (l.length : Int)), (27, .int .i64 (i : Int)), (30, .slice oa o.length oc), (31, .int .i64 (o.length : Int)), (32, .int .i64 (j : Int))]) (fun j w7 => (j ≤ o.length ∧ ∀ x ∈ o.take j, ¬ x = (i : Int)) ∧ Has w7 b_2 [.slice la l.length lc] 22 ∧ Sub w w7) (fun j => o.length - j) 0 (keep_of (by repeat (first | exact trivial | refine And.intro rfl ?_))) (⟨⟨Nat.zero_le _, by simp⟩, hb_2, S⟩) (fun j w7 hJ => ?_)
        obtain ⟨⟨hj, hp⟩, hb_2, S⟩ := hJ
        refine RC.seq ?_
        refine RC.region rfl ?_
        refine RL.ev (.bin rfl rfl rfl) rfl rfl ?_
        refine RL.nil (RC.back ?_)
        refine RC.seq ?_
        refine RC.cond_dec rfl (fun h8 => ?_) (fun h8 => ?_)
        ·
          obtain ⟨x, hx⟩ := getSome (l := o) (i := j) (by omega)
          refine RC.skip (RC.back ?_)
          refine RC.seq ?_
          refine RC.block ?_
          refine RC.seq ?_
          refine RC.region rfl ?_
          refine RL.ev (.indexS sl23 rfl rfl (by omega) (ho.is (i := 0) (by simp only [List.length_map, List.length_cons, List.length_nil]; omega))) rfl rfl ?_
          refine RL.ev (.load1 sh3 rfl ((ho.sub S).one (enc := i6) (i := j) hx)) rfl rfl ?_
          refine RL.ev (.assign rfl) rfl rfl ?_
          refine RL.nil (RC.back ?_)
          refine RC.seq ?_
          refine RC.region rfl ?_
          refine RL.ev (.move rfl) rfl rfl ?_
          refine RL.ev (.move rfl) rfl rfl ?_
          refine RL.ev (.bin rfl rfl rfl) rfl rfl ?_
          refine RL.nil (RC.back ?_)
          refine RC.cond_dec rfl (fun h9 => ?_) (fun h9 => ?_)
          ·
            have hin : (i : Int) ∈ o := (by rw [← show x = (i : Int) from h9]; exact List.mem_of_getElem? hx)
            refine RC.exit rfl (RC.back ?_)
            refine RC.region rfl ?_
            refine RL.ev (.as (.bin rfl rfl rfl) (wi64 (y := ((i + 1 : Nat) : Int)) (by omega) (by omega))) rfl rfl ?_
            refine RL.ev (.move rfl) rfl rfl ?_
            exact RL.nil (fun a ka => ⟨i + 1, ⟨⟨by omega, fun q hq => by rcases Nat.lt_or_eq_of_le (Nat.le_of_lt_succ hq) with h | h; exact hall q h; rw [h]; exact hin⟩, hb_2, S⟩, by omega, ka.keep (keep_of (by repeat (first | exact trivial | refine And.intro rfl ?_)))⟩)
          ·
            have g38 : ¬ x = (i : Int) := h9
            refine RC.skip (RC.back ?_)
            refine RC.region rfl ?_
            refine RL.ev (.as (.bin rfl rfl rfl) (wi64 (y := ((j + 1 : Nat) : Int)) (by omega) (by omega))) rfl rfl ?_
            refine RL.ev (.move rfl) rfl rfl ?_
            exact RL.nil (fun a ka => ⟨j + 1, ⟨⟨by omega, fun z hz => by rw [List.take_add_one, hx] at hz; rcases List.mem_append.1 hz with hz | hz; exact hp z hz; have e : z = x := (by simpa using hz); rw [e]; exact g38⟩, hb_2, S⟩, by omega, ka.keep (keep_of (by repeat (first | exact trivial | refine And.intro rfl ?_)))⟩)
        ·
          obtain rfl : j = o.length := (by omega)
          rw [List.take_length] at hp
          refine RC.exit rfl (RC.back ?_)
          refine RC.seq ?_
          refine RC.region rfl ?_
          refine RL.ev (.assign rfl) rfl rfl ?_
          refine RL.nil (RC.back ?_)
          refine RC.done (rs := [.tmp 4]) (vs := [_]) rfl rfl ⟨rfl, trivial⟩ ?_
          -- end 3
          rw [fitsM_no (fun e => hp _ (e.2.2 i hil) rfl)]
          exact ⟨rfl, S⟩
      ·
        obtain rfl : i = l.length := (by omega)
        have hpm : permH l o := ⟨g24, hall⟩
        obtain ⟨hrng, hnd⟩ := perm_once g24 hall
        refine RC.exit rfl (RC.back ?_)
        refine RC.seq ?_
        refine RC.seq ?_
        refine RC.region rfl ?_
        refine RL.ev (.move rfl) rfl rfl ?_
        refine RL.ev (.len sl23 rfl) rfl rfl ?_
        refine RL.ev (.move rfl) rfl rfl ?_
        refine RL.nil (RC.back ?_)
        refine RC.block ?_
        refine RC.loop (α := Nat) (fun i => [(1, .slice oa o.length oc), (2, .pointer (some ⟨b_2, 0, none⟩)), (41, .slice oa o.length oc), (42, .int .i64 (o.length : Int)), (43, .int .i64 (i : Int))]) (fun i w10 => (i ≤ o.length ∧ fitsT l (o.take i)) ∧ Has w10 b_2 [.slice la l.length lc] 22 ∧ Sub w w10) (fun i => o.length - i) 0 (keep_of (by repeat (first | exact trivial | refine And.intro rfl ?_))) (⟨⟨Nat.zero_le _, List.Pairwise.nil⟩, hb_2, S⟩) (fun i w10 hJ => ?_)
        obtain ⟨⟨hi, hft⟩, hb_2, S⟩ := hJ
        refine RC.seq ?_
        refine RC.region rfl ?_
        refine RL.ev (.bin rfl rfl rfl) rfl rfl ?_
        refine RL.nil (RC.back ?_)
        refine RC.seq ?_
        refine RC.cond_dec rfl (fun h11 => ?_) (fun h11 => ?_)
        ·
          obtain ⟨x, hx⟩ := getSome (l := o) (i := i) (by omega)
          have hxr := hrng x (List.mem_of_getElem? hx)
          have hst := fitsT_step (l := l) hx
          refine RC.skip (RC.back ?_)
          refine RC.seq ?_
          refine RC.block ?_
          refine RC.seq ?_
          refine RC.region rfl ?_
          refine RL.ev (.move rfl) rfl rfl ?_
          refine RL.ev (.indexS sl23 rfl rfl (by omega) (ho.is (i := 0) (by simp only [List.length_map, List.length_cons, List.length_nil]; omega))) rfl rfl ?_
          refine RL.ev (.load1 sh3 rfl ((ho.sub S).one (enc := i6) (i := i) hx)) rfl rfl ?_
          refine RL.alloc ze3 rfl rfl (fun b_9 w_9 e_9 z_9 hb_9 s_9 => ?_)
          have ge_9 := S.le e_9
          have n_2__9 := hb_2.ne e_9
          have S := S.trans s_9
          have hb_2 := hb_2.sub s_9
          refine RL.ev (.assign rfl) rfl rfl ?_
          refine RL.store sh3 rfl rfl rfl hb_9 (by exact Nat.le_of_ble_eq_true rfl) (by rfl) rfl (fun w12 z12 hb_9 a12 => ?_)
          have S := S.upd a12 ge_9
          have hb_2 := hb_2.upd a12 n_2__9
          have hb_9 : Has w12 b_9 ([i6 x]) _ := hb_9
          refine RL.nil (RC.back ?_)
          refine RC.seq ?_
          refine RC.region rfl ?_
          refine RL.ev (.move rfl) rfl rfl ?_
          refine RL.ev (.move rfl) rfl rfl ?_
          refine RL.ev (.as (v' := .slice oa (o.take i).length oc) (.sliceHi sl23 rfl rfl (by omega)) (by rw [List.length_take, Nat.min_eq_left hi]; rfl)) rfl rfl ?_
          refine RL.ev (.func (xs := []) (ys := [_, _]) rfl rfl) rfl rfl ?_
          refine RL.call rfl ok21 (c_containsFI 28 ok28 [.pointer (some ⟨b_2, 0, none⟩), .pointer (some ⟨b_9, 0, none⟩)] (fun j => decide (laterP l j x)) (o.take i) oa oc _ rfl w12 (fun j hj w' s => c_fits1 l la lc b_2 b_9 x j hxr (hrng j (List.mem_of_mem_take hj)) w' (hb_9.sub s) (hb_2.sub s) ((hl.sub S).sub s)) (by rw [List.map_take]; exact (ho.sub S).take i) (by rw [List.length_take]; omega)) rfl rfl ?_
          rintro _ w13 ⟨rfl, s14⟩
          have S := S.trans s14
          have hb_2 := hb_2.sub s14
          have hb_9 := hb_9.sub s14
          refine RL.nil (RC.back ?_)
          refine RC.cond rfl (fun h15 => ?_) (fun h15 => ?_)
          ·
            have h52 : ¬ fitsT l o := (fun e => by obtain ⟨j, hj, hq⟩ := List.any_eq_true.1 h15; exact (hst.1 (fitsT_sub (i + 1) e)).2 j hj (of_decide_eq_true hq))
            refine RC.seq ?_
            refine RC.region rfl ?_
            refine RL.ev (.assign rfl) rfl rfl ?_
            refine RL.nil (RC.back ?_)
            refine RC.done (rs := [.tmp 4]) (vs := [_]) rfl rfl ⟨rfl, trivial⟩ ?_
            -- end 4
            rw [fitsM_time ⟨g18, hpm⟩ h52]
            exact ⟨rfl, S⟩
          ·
            have h52 : fitsT l (o.take (i + 1)) := hst.2 ⟨hft, fun j hj => by have q := List.any_eq_false.1 h15 j hj; simpa using q⟩
            refine RC.skip (RC.back ?_)
            refine RC.region rfl ?_
            refine RL.ev (.as (.bin rfl rfl rfl) (wi64 (y := ((i + 1 : Nat) : Int)) (by omega) (by omega))) rfl rfl ?_
            refine RL.ev (.move rfl) rfl rfl ?_
            exact RL.nil (fun a ka => ⟨i + 1, ⟨⟨by omega, h52⟩, hb_2, S⟩, by omega, ka.keep (keep_of (by repeat (first | exact trivial | refine And.intro rfl ?_)))⟩)
        ·
          obtain rfl : i = o.length := (by omega)
          rw [List.take_length] at hft
          have h0F : Ft (fun _ => False) (fun u => MoR u p0 m0) w10 := m0_F _ (fun k hk => hk.elim)
          refine RC.exit rfl (RC.back ?_)
          refine RC.seq ?_
          refine RC.region rfl ?_
          refine RL.alloc ze38 rfl rfl (fun b_10 w_10 e_10 z_10 hb_10 s_10 => ?_)
          have ge_10 := S.le e_10
          have n_2__10 := hb_2.ne e_10
          have d_h0F_b_10 := h0F.neNew e_10
          have S := S.trans s_10
          have hb_2 := hb_2.sub s_10
          have h0F := h0F.sub s_10
          refine RL.nil (RC.back ?_)
          refine RC.seq ?_
          refine RC.seq ?_
          refine RC.region rfl ?_
          refine RL.ev (.move rfl) rfl rfl ?_
          refine RL.ev (.len sl23 rfl) rfl rfl ?_
          refine RL.ev (.move rfl) rfl rfl ?_
          refine RL.nil (RC.back ?_)
          refine RC.block ?_
          refine RC.loop (α := Nat × Mo × Ph × (Nat → Prop)) (fun x => [(1, .slice oa o.length oc), (2, .pointer (some ⟨b_2, 0, none⟩)), (10, .pointer (some ⟨b_10, 0, none⟩)), (54, .slice oa o.length oc), (55, .int .i64 (o.length : Int)), (56, .int .i64 (x.1 : Int))]) (fun x w16 => (x.1 ≤ o.length ∧ rightM x.2.1 ∧ MoS x.2.2.1 x.2.1 ∧ playM m0 ((o.take x.1).map (enAt l)) = some x.2.1) ∧ Has w16 b_2 [.slice la l.length lc] 22 ∧ Has w16 b_10 [.slice x.2.2.1.a1 x.2.1.map.length x.2.2.1.c1, .slice x.2.2.1.a2 x.2.1.tab.length x.2.2.1.c2, .slice x.2.2.1.a3 x.2.1.row.length x.2.2.1.c3, .slice x.2.2.1.a4 x.2.1.heap.length x.2.2.1.c4] 38 ∧ Ft x.2.2.2 (fun u => MoR u x.2.2.1 x.2.1) w16 ∧ (∀ k, x.2.2.2 k → k ≠ b_2) ∧ (∀ k, x.2.2.2 k → k ≠ b_10) ∧ Sub w w16) (fun x => o.length - x.1) (0, m0, p0, fun _ => False) (keep_of (by repeat (first | exact trivial | refine And.intro rfl ?_))) (⟨⟨Nat.zero_le _, m0_right, m0_S, rfl⟩, hb_2, hb_10, h0F, fun k hk => hk.elim, fun k hk => hk.elim, S⟩) (fun x w16 hJ => ?_)
          obtain ⟨i, cur, p', M'⟩ := x; obtain ⟨⟨hi, hRc, hsc, hplay⟩, hb_2, hb_10, hF, d1, d2, S⟩ := hJ; simp only [] at hi hRc hsc hplay hb_10 hF d1 d2
          refine RC.seq ?_
          refine RC.region rfl ?_
          refine RL.ev (.bin rfl rfl rfl) rfl rfl ?_
          refine RL.nil (RC.back ?_)
          refine RC.seq ?_
          refine RC.cond_dec rfl (fun h17 => ?_) (fun h17 => ?_)
          ·
            obtain ⟨x, hx⟩ := getSome (l := o) (i := i) (by omega)
            have hxr := hrng x (List.mem_of_getElem? hx)
            have hst := playM_step hx hplay
            obtain ⟨xn, rfl⟩ := Int.eq_ofNat_of_zero_le hxr.1
            obtain ⟨y, hy⟩ := getSome (l := l) (i := xn) (by omega)
            rw [enAt_get hy] at hst
            have hyr : rightE y := g18.1 y (List.mem_of_getElem? hy)
            refine RC.skip (RC.back ?_)
            refine RC.seq ?_
            refine RC.block ?_
            refine RC.seq ?_
            refine RC.region rfl ?_
            refine RL.ev (.indexS sl23 rfl rfl (by omega) (ho.is (i := 0) (by simp only [List.length_map, List.length_cons, List.length_nil]; omega))) rfl rfl ?_
            refine RL.ev (.load1 sh3 rfl ((ho.sub S).one (enc := i6) (i := i) hx)) rfl rfl ?_
            refine RL.ev (.assign rfl) rfl rfl ?_
            refine RL.nil (RC.back ?_)
            refine RC.seq ?_
            refine RC.drawD (fun k => False) [10] w16.heap.size 12 rfl rfl mxo (fun w18 s19 => ?_)
            have hNN : ∀ k, ((False) ∨ w16.heap.size ≤ k) → w.heap.size ≤ k := fun k e => e.elim (fun e => e.elim) (fun e => Nat.le_trans S.size e)
            have ent_S := S.size
            have hN0 : ∀ k, w16.heap.size ≤ k → w.heap.size ≤ k := fun k e => Nat.le_trans S.size e
            have ltD_b_2 := hb_2.lt
            have ltD_b_10 := hb_10.lt
            have ltD_hF := fun k hk => (hF.ge k hk).2
            have szD := Nat.le_refl w16.heap.size
            have S := S.trans s19
            have hb_2 := hb_2.sub s19
            have hb_10 := hb_10.sub s19
            have hF := hF.sub s19
            have szD := Nat.le_trans szD s19.size
            refine RD.take 0 rfl (by kernel_rfl) (by kernel_rfl) (by kernel_rfl) (fun w' s' => .loadR ([.slice p'.a1 cur.map.length p'.c1, .slice p'.a2 cur.tab.length p'.c2, .slice p'.a3 cur.row.length p'.c3, .slice p'.a4 cur.heap.length p'.c4]) sh38 rfl (hb_10.step s' (fun e => e.elim (fun e => e.elim) (fun e => Nat.not_le.2 ltD_b_10 e))).row rfl) rfl rfl ?_
            refine RD.take 1 rfl (by kernel_rfl) (by kernel_rfl) (by kernel_rfl) (fun w' s' => .load1 sh22 rfl ((hb_2.step s' (fun e => e.elim (fun e => e.elim) (fun e => Nat.not_le.2 ltD_b_2 e))).cell rfl)) rfl rfl ?_
            refine RD.take 2 rfl (by kernel_rfl) (by kernel_rfl) (by kernel_rfl) (fun w' s' => .move rfl) rfl rfl ?_
            refine RD.take 3 rfl (by kernel_rfl) (by kernel_rfl) (by kernel_rfl) (fun w' s' => .indexS sl22 rfl rfl (by omega) (hl.is (i := 0) (by simp only [List.length_map, List.length_cons, List.length_nil]; omega))) rfl rfl ?_
            refine RD.take 4 rfl (by kernel_rfl) (by kernel_rfl) (by kernel_rfl) (fun w' s' => .loadR (y.cells) sh48 rfl ((hl.sub (S.agrN s' hNN)).rowAt (enc := En.cells) (i := xn) hy) rfl) rfl rfl ?_
            refine RD.all [5, 9] (by kernel_rfl) rfl (RDs.cons rfl ?_ (RDs.cons rfl ?_ (RDs.nil)))
            ·
              refine RL.call rfl ok23 (c_answers p' cur hsc hRc y hyr w18 M' hF) rfl rfl ?_
              rintro _ w20 ⟨s21, p2, M2, r, rfl, hs2, hF2, hup2, hr⟩
              have d_hF2_b_2 := upNe hup2 d1 hb_2.lt
              have d_hF2_b_10 := upNe hup2 d2 hb_10.lt
              have S := S.trans s21
              have hb_2 := hb_2.sub s21
              have hb_10 := hb_10.sub s21
              have hF := hF.sub s21
              have szD := Nat.le_trans szD s21.size
              refine RD.back s21.agr ?_
              refine RD.take 6 rfl (by kernel_rfl) (by kernel_rfl) (by kernel_rfl) (fun w' s' => .move rfl) rfl rfl ?_
              refine RD.take 7 rfl (by kernel_rfl) (by kernel_rfl) (by kernel_rfl) (fun w' s' => .extract rfl rfl) rfl rfl ?_
              refine RD.take 8 rfl (by kernel_rfl) (by kernel_rfl) (by kernel_rfl) (fun w' s' => .extract rfl rfl) rfl rfl ?_
              refine RD.all [9] (by kernel_rfl) rfl (RDs.cons rfl ?_ (RDs.nil))
              refine RL.alloc ze38 rfl rfl (fun b_13 w_13 e_13 z_13 hb_13 s_13 => ?_)
              have fr_b_13 : w16.heap.size ≤ b_13 := by rw [e_13]; exact szD
              have ge_13 := S.le e_13
              have n_2__13 := hb_2.ne e_13
              have n_10__13 := hb_10.ne e_13
              have d_hF_b_13 := hF.neNew e_13
              have d_hF2_b_13 := hF2.neNew e_13
              have S := S.trans s_13
              have hb_2 := hb_2.sub s_13
              have hb_10 := hb_10.sub s_13
              have hF := hF.sub s_13
              have szD := Nat.le_trans szD s_13.size
              have hF2 := hF2.sub s_13
              refine RD.back s_13.agr ?_
              refine RD.all [10] (by kernel_rfl) rfl (RDs.cons rfl ?_ (RDs.nil))
              refine RL.store sh38 rfl rfl rfl hb_13 (by exact Nat.le_of_ble_eq_true rfl) (by rfl) rfl (fun w22 z22 hb_13 a22 => ?_)
              have S := S.upd a22 ge_13
              have hb_2 := hb_2.upd a22 n_2__13
              have hb_10 := hb_10.upd a22 n_10__13
              have hF := hF.updD a22 d_hF_b_13
              have szD := Nat.le_trans szD a22.size
              have hF2 := hF2.updD a22 d_hF2_b_13
              have hb_13 : Has w22 b_13 ([.slice p2.a1 r.map.length p2.c1, .slice p2.a2 r.tab.length p2.c2, .slice p2.a3 r.row.length p2.c3, .slice p2.a4 r.heap.length p2.c4]) _ := hb_13.now (by kernel_rfl)
              refine RD.backW rfl (a22.mono fun k _ e => e ▸ (.inr fr_b_13)) ?_
              refine RD.take 11 rfl (by kernel_rfl) (by kernel_rfl) (by kernel_rfl) (fun w' s' => .assign rfl) rfl rfl ?_
              refine RD.done (by kernel_rfl) (RC.back ?_)
              refine RC.seq ?_
              refine RC.seq ?_
              refine RC.region rfl ?_
              refine RL.ev (.move rfl) rfl rfl ?_
              refine RL.ev (.not rfl) rfl rfl ?_
              refine RL.nil (RC.back ?_)
              refine RC.cond rfl (fun h23 => ?_) (fun h23 => ?_)
              ·
                have g70 : (ansM cur y).2 = false := (by have q := h23; simpa using q)
                have hdead : playM m0 (o.map (enAt l)) = none := playM_dead (i := i + 1) (by rw [hst, g70]; rfl)
                refine RC.seq ?_
                refine RC.region rfl ?_
                refine RL.ev (.assign rfl) rfl rfl ?_
                refine RL.nil (RC.back ?_)
                refine RC.done (rs := [.tmp 4]) (vs := [_]) rfl rfl ⟨rfl, trivial⟩ ?_
                -- end 5
                rw [fitsM_play ⟨g18, hpm⟩ hft hdead]
                exact ⟨rfl, S⟩
              ·
                have g70 : (ansM cur y).2 = true := (by have q := h23; simpa using q)
                have hrr := hr g70
                rw [g70, if_pos rfl, ← hrr] at hst
                have hRr : rightM r := (hrr ▸ ansM_right hRc hyr)
                refine RC.skip (RC.back ?_)
                refine RC.region rfl ?_
                refine RL.ev (.loadR ([.slice p2.a1 r.map.length p2.c1, .slice p2.a2 r.tab.length p2.c2, .slice p2.a3 r.row.length p2.c3, .slice p2.a4 r.heap.length p2.c4]) sh38 rfl hb_13.row rfl) rfl rfl ?_
                refine RL.store sh38 rfl rfl rfl hb_10 (by exact Nat.le_of_ble_eq_true rfl) (by rfl) rfl (fun w24 z24 hb_10 a24 => ?_)
                have S := S.upd a24 ge_10
                have hb_2 := hb_2.upd a24 n_2__10
                have hF := hF.updD a24 d2
                have hF2 := hF2.updD a24 d_hF2_b_10
                have hb_13 := hb_13.upd a24 n_10__13.symm
                have hb_10 : Has w24 b_10 ([.slice p2.a1 r.map.length p2.c1, .slice p2.a2 r.tab.length p2.c2, .slice p2.a3 r.row.length p2.c3, .slice p2.a4 r.heap.length p2.c4]) _ := hb_10.now (by kernel_rfl)
                refine RL.nil (RC.back ?_)
                refine RC.region rfl ?_
                refine RL.ev (.as (.bin rfl rfl rfl) (wi64 (y := ((i + 1 : Nat) : Int)) (by omega) (by omega))) rfl rfl ?_
                refine RL.ev (.move rfl) rfl rfl ?_
                exact RL.nil (fun a ka => ⟨(i + 1, r, p2, M2), ⟨⟨by omega, hRr, hs2, hst⟩, hb_2, hb_10, hF2, d_hF2_b_2, d_hF2_b_10, S⟩, by omega, ka.keep (keep_of (by repeat (first | exact trivial | refine And.intro rfl ?_)))⟩)
            ·
              refine RL.alloc ze38 rfl rfl (fun b_13 w_13 e_13 z_13 hb_13 s_13 => ?_)
              have fr_b_13 : w16.heap.size ≤ b_13 := by rw [e_13]; exact szD
              have ge_13 := S.le e_13
              have n_2__13 := hb_2.ne e_13
              have n_10__13 := hb_10.ne e_13
              have d_hF_b_13 := hF.neNew e_13
              have S := S.trans s_13
              have hb_2 := hb_2.sub s_13
              have hb_10 := hb_10.sub s_13
              have hF := hF.sub s_13
              have szD := Nat.le_trans szD s_13.size
              refine RD.back s_13.agr ?_
              refine RD.all [5] (by kernel_rfl) rfl (RDs.cons rfl ?_ (RDs.nil))
              refine RL.call rfl ok23 (c_answers p' cur hsc hRc y hyr w_13 M' hF) rfl rfl ?_
              rintro _ w25 ⟨s26, p2, M2, r, rfl, hs2, hF2, hup2, hr⟩
              have d_hF2_b_2 := upNe hup2 d1 hb_2.lt
              have d_hF2_b_10 := upNe hup2 d2 hb_10.lt
              have d_hF2_b_13 := upNe hup2 d_hF_b_13 hb_13.lt
              have S := S.trans s26
              have hb_2 := hb_2.sub s26
              have hb_10 := hb_10.sub s26
              have hF := hF.sub s26
              have szD := Nat.le_trans szD s26.size
              have hb_13 := hb_13.sub s26
              refine RD.back s26.agr ?_
              refine RD.take 6 rfl (by kernel_rfl) (by kernel_rfl) (by kernel_rfl) (fun w' s' => .move rfl) rfl rfl ?_
              refine RD.take 7 rfl (by kernel_rfl) (by kernel_rfl) (by kernel_rfl) (fun w' s' => .extract rfl rfl) rfl rfl ?_
              refine RD.take 8 rfl (by kernel_rfl) (by kernel_rfl) (by kernel_rfl) (fun w' s' => .extract rfl rfl) rfl rfl ?_
              refine RD.all [10] (by kernel_rfl) rfl (RDs.cons rfl ?_ (RDs.nil))
              refine RL.store sh38 rfl rfl rfl hb_13 (by exact Nat.le_of_ble_eq_true rfl) (by rfl) rfl (fun w27 z27 hb_13 a27 => ?_)
              have S := S.upd a27 ge_13
              have hb_2 := hb_2.upd a27 n_2__13
              have hb_10 := hb_10.upd a27 n_10__13
              have hF := hF.updD a27 d_hF_b_13
              have szD := Nat.le_trans szD a27.size
              have hF2 := hF2.updD a27 d_hF2_b_13
              have hb_13 : Has w27 b_13 ([.slice p2.a1 r.map.length p2.c1, .slice p2.a2 r.tab.length p2.c2, .slice p2.a3 r.row.length p2.c3, .slice p2.a4 r.heap.length p2.c4]) _ := hb_13.now (by kernel_rfl)
              refine RD.backW rfl (a27.mono fun k _ e => e ▸ (.inr fr_b_13)) ?_
              refine RD.take 11 rfl (by kernel_rfl) (by kernel_rfl) (by kernel_rfl) (fun w' s' => .assign rfl) rfl rfl ?_
              refine RD.done (by kernel_rfl) (RC.back ?_)
              refine RC.seq ?_
              refine RC.seq ?_
              refine RC.region rfl ?_
              refine RL.ev (.move rfl) rfl rfl ?_
              refine RL.ev (.not rfl) rfl rfl ?_
              refine RL.nil (RC.back ?_)
              refine RC.cond rfl (fun h28 => ?_) (fun h28 => ?_)
              ·
                have g70 : (ansM cur y).2 = false := (by have q := h28; simpa using q)
                have hdead : playM m0 (o.map (enAt l)) = none := playM_dead (i := i + 1) (by rw [hst, g70]; rfl)
                refine RC.seq ?_
                refine RC.region rfl ?_
                refine RL.ev (.assign rfl) rfl rfl ?_
                refine RL.nil (RC.back ?_)
                refine RC.done (rs := [.tmp 4]) (vs := [_]) rfl rfl ⟨rfl, trivial⟩ ?_
                -- end 6
                rw [fitsM_play ⟨g18, hpm⟩ hft hdead]
                exact ⟨rfl, S⟩
              ·
                have g70 : (ansM cur y).2 = true := (by have q := h28; simpa using q)
                have hrr := hr g70
                rw [g70, if_pos rfl, ← hrr] at hst
                have hRr : rightM r := (hrr ▸ ansM_right hRc hyr)
                refine RC.skip (RC.back ?_)
                refine RC.region rfl ?_
                refine RL.ev (.loadR ([.slice p2.a1 r.map.length p2.c1, .slice p2.a2 r.tab.length p2.c2, .slice p2.a3 r.row.length p2.c3, .slice p2.a4 r.heap.length p2.c4]) sh38 rfl hb_13.row rfl) rfl rfl ?_
                refine RL.store sh38 rfl rfl rfl hb_10 (by exact Nat.le_of_ble_eq_true rfl) (by rfl) rfl (fun w29 z29 hb_10 a29 => ?_)
                have S := S.upd a29 ge_10
                have hb_2 := hb_2.upd a29 n_2__10
                have hF := hF.updD a29 d2
                have hb_13 := hb_13.upd a29 n_10__13.symm
                have hF2 := hF2.updD a29 d_hF2_b_10
                have hb_10 : Has w29 b_10 ([.slice p2.a1 r.map.length p2.c1, .slice p2.a2 r.tab.length p2.c2, .slice p2.a3 r.row.length p2.c3, .slice p2.a4 r.heap.length p2.c4]) _ := hb_10.now (by kernel_rfl)
                refine RL.nil (RC.back ?_)
                refine RC.region rfl ?_
                refine RL.ev (.as (.bin rfl rfl rfl) (wi64 (y := ((i + 1 : Nat) : Int)) (by omega) (by omega))) rfl rfl ?_
                refine RL.ev (.move rfl) rfl rfl ?_
                exact RL.nil (fun a ka => ⟨(i + 1, r, p2, M2), ⟨⟨by omega, hRr, hs2, hst⟩, hb_2, hb_10, hF2, d_hF2_b_2, d_hF2_b_10, S⟩, by omega, ka.keep (keep_of (by repeat (first | exact trivial | refine And.intro rfl ?_)))⟩)
          ·
            obtain rfl : i = o.length := (by omega)
            rw [List.take_length] at hplay
            refine RC.exit rfl (RC.back ?_)
            refine RC.seq ?_
            refine RC.region rfl ?_
            refine RL.ev (.assign rfl) rfl rfl ?_
            refine RL.nil (RC.back ?_)
            refine RC.done (rs := [.tmp 4]) (vs := [_]) rfl rfl ⟨rfl, trivial⟩ ?_
            -- end 7
            rw [fitsM_zero.2 ⟨g18, hpm, hft, cur, hplay⟩]
            exact ⟨rfl, S⟩
end Go.Proofs.Ytlhnnleaiinjaaa
set_option linter.unusedVariables false
set_option linter.unusedSimpArgs false
namespace Go.Proofs.Ytlhnnleaiinjaaa
open Go Go.XL
theorem c_same20 (l m : List Int) (a b : Option Addr) (c d n k : Nat) (hn : n = l.length) (hk : k = m.length) (w : World) (hl : Sl w a 1 (l.map fun x => [i6 x])) (hm : Sl w b 1 (m.map fun x => [i6 x])) (hb : l.length ≤ 1000000) :
    FC Try.prog 12 [.slice a n c, .slice b k d] w (Val (.bool (decide (l = m))) w) := by
  subst hn hk
  refine FC.intro Try.func12 rfl Try.ntmps12 rfl ?_
  have S := Sub.refl w
  refine RC.seq ?_
  refine RC.region rfl ?_
  refine RL.ev (.assign rfl) rfl rfl ?_
  refine RL.nil (RC.back ?_)
  refine RC.seq ?_
  refine RC.seq ?_
  refine RC.region rfl ?_
  refine RL.ev (.move rfl) rfl rfl ?_
  refine RL.ev (.len sl23 rfl) rfl rfl ?_
  refine RL.ev (.move rfl) rfl rfl ?_
  refine RL.ev (.len sl23 rfl) rfl rfl ?_
  refine RL.ev (.bin rfl rfl rfl) rfl rfl ?_
  refine RL.nil (RC.back ?_)
  refine RC.cond_dec rfl (fun h1 => ?_) (fun h1 => ?_)
  ·
    have hne : ¬ l = m := (fun e => by subst e; exact absurd rfl h1)
    refine RC.seq ?_
    refine RC.region rfl ?_
    refine RL.ev (.assign rfl) rfl rfl ?_
    refine RL.nil (RC.back ?_)
    refine RC.done (rs := [.tmp 4]) (vs := [_]) rfl rfl ⟨rfl, trivial⟩ ?_
    -- end 1
    rw [decide_eq_false hne]
    exact ⟨rfl, S⟩
  ·
    have hlen : l.length = m.length := (by have := h1; omega)
    refine RC.skip (RC.back ?_)
    refine RC.seq ?_
    refine RC.seq ?_
    refine RC.region rfl ?_
    refine RL.ev (.move rfl) rfl rfl ?_
    refine RL.ev (.len sl23 rfl) rfl rfl ?_
    refine RL.ev (.move rfl) rfl rfl ?_
    refine RL.nil (RC.back ?_)
    refine RC.block ?_
    refine RC.loop (α := Nat) (fun i => [(0, .slice a l.length c), (1, .slice b m.length d), (12, .int .i64 (l.length : Int)), (13, .int .i64 (i : Int))]) (fun i w2 => (i ≤ l.length ∧ l.take i = m.take i) ∧ Sub w w2) (fun i => l.length - i) 0 (keep_of (by repeat (first | exact trivial | refine And.intro rfl ?_))) (⟨⟨Nat.zero_le _, by simp⟩, S⟩) (fun i w2 hJ => ?_)
    obtain ⟨⟨hi, hp⟩, S⟩ := hJ
    refine RC.seq ?_
    refine RC.region rfl ?_
    refine RL.ev (.bin rfl rfl rfl) rfl rfl ?_
    refine RL.nil (RC.back ?_)
    refine RC.seq ?_
    refine RC.cond_dec rfl (fun h3 => ?_) (fun h3 => ?_)
    ·
      obtain ⟨x, hx⟩ := getSome (l := l) (i := i) (by omega)
      obtain ⟨y, hy⟩ := getSome (l := m) (i := i) (by omega)
      refine RC.skip (RC.back ?_)
      refine RC.seq ?_
      refine RC.block ?_
      refine RC.seq ?_
      refine RC.region rfl ?_
      refine RL.ev (.move rfl) rfl rfl ?_
      refine RL.ev (.assign rfl) rfl rfl ?_
      refine RL.nil (RC.back ?_)
      refine RC.seq ?_
      refine RC.draw rfl mxo (by kernel_rfl) ?_
      refine RQ.ev (.move rfl) rfl rfl ?_
      refine RQ.ev (.move rfl) rfl rfl ?_
      refine RQ.ev (.indexS sl23 rfl rfl (by omega) (hl.is (i := 0) (by simp only [List.length_map, List.length_cons, List.length_nil]; omega))) rfl rfl ?_
      refine RQ.ev (.load1 sh3 rfl ((hl.sub S).one (enc := i6) (i := i) hx)) rfl rfl ?_
      refine RQ.ev (.move rfl) rfl rfl ?_
      refine RQ.ev (.move rfl) rfl rfl ?_
      refine RQ.ev (.indexS sl23 rfl rfl (by omega) (hm.is (i := 0) (by simp only [List.length_map, List.length_cons, List.length_nil]; omega))) rfl rfl ?_
      refine RQ.ev (.load1 sh3 rfl ((hm.sub S).one (enc := i6) (i := i) hy)) rfl rfl ?_
      refine RQ.ev (.bin rfl rfl rfl) rfl rfl ?_
      refine RQ.nil (fun w4 s5 => RC.back ?_)
      have S := S.trans s5
      refine RC.cond_dec rfl (fun h6 => ?_) (fun h6 => ?_)
      ·
        have hxy : ¬ x = y := h6
        have hne : ¬ l = m := (fun e => by subst e; rw [hx] at hy; cases hy; exact hxy rfl)
        refine RC.seq ?_
        refine RC.region rfl ?_
        refine RL.ev (.assign rfl) rfl rfl ?_
        refine RL.nil (RC.back ?_)
        refine RC.done (rs := [.tmp 4]) (vs := [_]) rfl rfl ⟨rfl, trivial⟩ ?_
        -- end 2
        rw [decide_eq_false hne]
        exact ⟨rfl, S⟩
      ·
        have hxy : x = y := Decidable.not_not.1 h6
        refine RC.skip (RC.back ?_)
        refine RC.region rfl ?_
        refine RL.ev (.as (.bin rfl rfl rfl) (wi64 (y := ((i + 1 : Nat) : Int)) (by omega) (by omega))) rfl rfl ?_
        refine RL.ev (.move rfl) rfl rfl ?_
        exact RL.nil (fun a ka => ⟨i + 1, ⟨⟨by omega, ints_ext hx hy hp hxy⟩, S⟩, by omega, ka.keep (keep_of (by repeat (first | exact trivial | refine And.intro rfl ?_)))⟩)
    ·
      obtain rfl : i = l.length := (by omega)
      rw [List.take_length, hlen, List.take_length] at hp
      refine RC.exit rfl (RC.back ?_)
      refine RC.seq ?_
      refine RC.region rfl ?_
      refine RL.ev (.assign rfl) rfl rfl ?_
      refine RL.nil (RC.back ?_)
      refine RC.done (rs := [.tmp 4]) (vs := [_]) rfl rfl ⟨rfl, trivial⟩ ?_
      -- end 3
      rw [decide_eq_true hp]
      exact ⟨rfl, S⟩
theorem order_fit {l : List En} (h : rightH l ∧ l.length ≤ 8) {r : List Int} (hf : fitsM l r = 0) (hne : ¬ r = []) : ∃ r', orderM l = (r', 0) ∧ fitsM l r' = 0 := by
  have h1 : ¬ firstM l l.length [] = [] := firstM_all hf hne (b := []) (s := r) rfl ((fitsM_zero.1 hf).2.1.1)
  rw [first_try h.1 (Beg.nil l)] at h1
  cases ht : tryM l l.length [] m0 with
  | none => rw [ht] at h1; exact absurd rfl h1
  | some r' => exact ⟨r', orderM_some h ht, (tryM_fits h.1 (Beg.nil l) ht).1⟩
theorem order_none {l : List En} (h : rightH l ∧ l.length ≤ 8) (hf : ∀ r, ¬ fitsM l r = 0) : orderM l = ([], 3) := by
  cases ht : tryM l l.length [] m0 with
  | none => exact orderM_none h ht
  | some r' => exact absurd (tryM_fits h.1 (Beg.nil l) ht).1 (hf r')
def al20 : List En := [⟨0, ⟨3, 6, 0, 0⟩, ⟨0, 1, 0⟩, 0, 9⟩, ⟨0, ⟨3, 2, 7, 0⟩, ⟨0, 0, 0⟩, 3, 5⟩]
theorem al_right : rightH al20 := by
  refine ⟨?_, by decide⟩
  unfold rightE
  decide
theorem al_fits : fitsM al20 [1, 0] = 0 := by
  refine fitsM_zero.2 ⟨al_right, ⟨rfl, by decide⟩, ?_, ?_⟩
  · unfold fitsT laterP; decide
  · exact ⟨⟨[], [], [7], []⟩, by rfl⟩
theorem al_order : ∃ r, orderM al20 = (r, 0) ∧ r = [1, 0] := by
  obtain ⟨r, h1, h2⟩ := order_fit ⟨al_right, by decide⟩ al_fits (by simp)
  refine ⟨r, h1, ?_⟩
  obtain ⟨_, hp, _, m, hm⟩ := fitsM_zero.1 h2
  obtain ⟨hr, hn⟩ := perm_once hp.1 hp.2
  have h2 := hp.1
  match r, h2 with
  | [x, y], _ =>
    have hx := hr x (by simp)
    have hy := hr y (by simp)
    have hxy : ¬ x = y := by rw [List.nodup_cons] at hn; simpa using hn.1
    have h2 : ((al20.length : Nat) : Int) = 2 := rfl
    rw [h2] at hx hy
    have : (x = 0 ∧ y = 1) ∨ (x = 1 ∧ y = 0) := by omega
    rcases this with ⟨rfl, rfl⟩ | ⟨rfl, rfl⟩
    · have : playM m0 ([0, 1].map (enAt al20)) = none := by rfl
      rw [this] at hm; cases hm
    · rfl
theorem c_alive20 (w : World) : FC Try.prog 9 [] w (Val (.bool true) w) := by
  obtain ⟨r, hr, hr2⟩ := al_order
  subst hr2
  refine FC.intro Try.func9 rfl Try.ntmps9 rfl ?_
  have S := Sub.refl w
  refine RC.seq ?_
  refine RC.region rfl ?_
  refine RL.ev (.assign rfl) rfl rfl ?_
  refine RL.nil (RC.back ?_)
  refine RC.seq ?_
  refine RC.region rfl ?_
  refine RL.ev (.as (v' := .agg #[.int .i64 3, .int .i64 6, .int .i64 0, .int .i64 0]) (.buildS ze40 pl40 rfl rfl) (by rfl)) rfl rfl ?_
  refine RL.ev (.as (v' := .agg #[.int .i64 0, .int .i64 1, .int .i64 0]) (.buildS ze43 pl43 rfl rfl) (by rfl)) rfl rfl ?_
  refine RL.ev (.as (v' := .agg #[.int .i64 0, .int .i64 3, .int .i64 6, .int .i64 0, .int .i64 0, .int .i64 0, .int .i64 1, .int .i64 0, .int .i64 0, .int .i64 9]) (.buildS ze48 pl48 rfl rfl) (by rfl)) rfl rfl ?_
  refine RL.ev (.as (v' := .agg #[.int .i64 3, .int .i64 2, .int .i64 7, .int .i64 0]) (.buildS ze40 pl40 rfl rfl) (by rfl)) rfl rfl ?_
  refine RL.ev (.as (v' := .agg #[.int .i64 0, .int .i64 3, .int .i64 2, .int .i64 7, .int .i64 0, .int .i64 0, .int .i64 0, .int .i64 0, .int .i64 3, .int .i64 5]) (.buildS ze48 pl48 rfl rfl) (by rfl)) rfl rfl ?_
  refine RL.buildSliceN (vs := [_, _]) sl22 _ ze48 rfl ⟨rfl, rfl, trivial⟩ rfl rfl rfl rfl rfl rfl (fun b_9 w_9 e_9 z_9 hb_9 s_9 => ?_)
  have ge_9 := S.le e_9
  have S := S.trans s_9
  refine RL.ev (.assign rfl) rfl rfl ?_
  refine RL.nil (RC.back ?_)
  refine RC.seq ?_
  refine RC.region rfl ?_
  refine RL.ev (.move rfl) rfl rfl ?_
  refine RL.call rfl ok7 (c_Order al20 (some ⟨b_9, 0, none⟩) 2 2 rfl (by decide) w_9 (Has.sl0 (rows := al20.map En.cells) hb_9 (by intro r hr; obtain ⟨x, _, rfl⟩ := List.mem_map.1 hr; rfl))) rfl rfl ?_
  rintro _ w1 ⟨s2, a12, c12, rfl, _, hs12⟩
  have S := S.trans s2
  have hb_9 := hb_9.sub s2
  rw [hr] at hs12
  obtain ⟨W9, S9, hs12⟩ : ∃ W, Sub W w1 ∧ Sl W a12 1 (([1, 0] : List Int).map fun x => [i6 x]) := ⟨_, Sub.refl _, hs12⟩
  rw [hr]
  refine RL.ev (.move rfl) rfl rfl ?_
  refine RL.ev (.extract rfl rfl) rfl rfl ?_
  refine RL.ev (.extract rfl rfl) rfl rfl ?_
  refine RL.ev (.assign rfl) rfl rfl ?_
  refine RL.ev (.assign rfl) rfl rfl ?_
  refine RL.nil (RC.back ?_)
  refine RC.seq ?_
  refine RC.region rfl ?_
  refine RL.ev (.move rfl) rfl rfl ?_
  refine RL.ev (.as (v' := .bool true) (.bin rfl rfl rfl) (congrArg Value.bool (decide_eq_true (rfl)))) rfl rfl ?_
  refine RL.ev (.move rfl) rfl rfl ?_
  refine RL.ev (.move rfl) rfl rfl ?_
  refine RL.ev (.len sl23 rfl) rfl rfl ?_
  refine RL.ev (.as (v' := .bool true) (.bin rfl rfl rfl) (congrArg Value.bool (decide_eq_true (rfl)))) rfl rfl ?_
  refine RL.ev (.pick_t rfl rfl) rfl rfl ?_
  refine RL.ev (.move rfl) rfl rfl ?_
  refine RL.ev (.move rfl) rfl rfl ?_
  refine RL.ev (.indexS sl23 rfl rfl (by decide) (hs12.is (i := 0) (by decide))) rfl rfl ?_
  refine RL.ev (.load1 sh3 rfl ((hs12.sub S9).one (enc := i6) (i := 0) (x := 1) rfl)) rfl rfl ?_
  refine RL.ev (.as (v' := .bool true) (.bin rfl rfl rfl) (congrArg Value.bool (decide_eq_true (rfl)))) rfl rfl ?_
  refine RL.ev (.pick_t rfl rfl) rfl rfl ?_
  refine RL.ev (.assign rfl) rfl rfl ?_
  refine RL.nil (RC.back ?_)
  refine RC.done (rs := [.tmp 0]) (vs := [_]) rfl rfl ⟨rfl, trivial⟩ ?_
  -- end 1
  exact ⟨rfl, S⟩
end Go.Proofs.Ytlhnnleaiinjaaa
set_option linter.unusedVariables false
set_option linter.unusedSimpArgs false
namespace Go.Proofs.Ytlhnnleaiinjaaa
open Go Go.XL
theorem inc_len : ∀ (r : List Int) (lo hi : Int), r.Pairwise (· < ·) → (∀ x ∈ r, lo ≤ x ∧ x < hi) → (r.length : Int) ≤ hi - lo ∨ r = []
  | [], _, _, _, _ => .inr rfl
  | a :: t, lo, hi, hp, h => by
    rw [List.pairwise_cons] at hp
    have ha := h a (by simp)
    rcases inc_len t (a + 1) hi hp.2 (fun x hx => ⟨by have := hp.1 x hx; omega, (h x (by simp [hx])).2⟩) with q | q
    · left; simp only [List.length_cons]; omega
    · left; rw [q]; simp; omega
theorem inc_all : ∀ (r : List Int) (lo : Nat), r.Pairwise (· < ·) → (∀ x ∈ r, (lo : Int) ≤ x ∧ x < ((lo + r.length : Nat) : Int)) → r = (List.range r.length).map fun i => Int.ofNat (lo + i)
  | [], _, _, _ => rfl
  | a :: t, lo, hp, h => by
    rw [List.pairwise_cons] at hp
    have ha := h a (by simp)
    have hal : a = (lo : Int) := by
      rcases inc_len t (a + 1) ((lo + (a :: t).length : Nat) : Int) hp.2 (fun x hx => ⟨by have := hp.1 x hx; omega, (h x (by simp [hx])).2⟩) with q | q
      · simp only [List.length_cons] at q; omega
      · rw [q] at ha; simp at ha; omega
    have ih := inc_all t (lo + 1) hp.2 (fun x hx => by have h1 := hp.1 x hx; have h2 := (h x (by simp [hx])).2; simp only [List.length_cons] at h2; omega)
    rw [List.length_cons, List.range_succ_eq_map, List.map_cons, List.map_map, hal]
    refine congr (congrArg List.cons (by simp)) ?_
    conv => lhs; rw [ih]
    refine List.map_congr_left fun i _ => ?_
    simp only [Function.comp]
    congr 1; omega
/-- entries that follow one another in time have one order -/
def chainT (l : List En) : Prop := ∀ (i : Nat) (x : En), l[i]? = some x → x.fr = 2 * (i : Int) ∧ x.to = 2 * (i : Int) + 1
theorem chain_at {l : List En} (h : chainT l) {i : Nat} (hi : i < l.length) : (enAt l i).fr = 2 * (i : Int) ∧ (enAt l i).to = 2 * (i : Int) + 1 := by
  obtain ⟨x, hx⟩ := getSome (l := l) (i := i) hi
  rw [enAt_get hx]; exact h i x hx
theorem chain_later {l : List En} (h : chainT l) {i j : Int} (hi : 0 ≤ i ∧ i < l.length) (hj : 0 ≤ j ∧ j < l.length) : laterP l i j ↔ j < i := by
  obtain ⟨a, rfl⟩ := Int.eq_ofNat_of_zero_le hi.1
  obtain ⟨b, rfl⟩ := Int.eq_ofNat_of_zero_le hj.1
  have h1 := chain_at h (i := a) (by omega)
  have h2 := chain_at h (i := b) (by omega)
  unfold laterP
  rw [h2.2, h1.1]; omega
theorem chain_one {l : List En} (h : chainT l) {r : List Int} (hp : permH l r) (hf : fitsT l r) : r = natsI l.length := by
  obtain ⟨hr, hn⟩ := perm_once hp.1 hp.2
  have hlt : r.Pairwise (· < ·) := by
    unfold fitsT at hf
    rw [List.pairwise_iff_getElem] at hf ⊢
    intro a b ha hb hab
    have h1 := hf a b ha hb hab
    rw [chain_later h (hr _ (List.getElem_mem ha)) (hr _ (List.getElem_mem hb))] at h1
    have h2 := List.pairwise_iff_getElem.1 hn a b ha hb hab
    omega
  have := inc_all r 0 hlt (fun x hx => by have := hr x hx; rw [hp.1]; omega)
  rw [this, hp.1]
  unfold natsI
  exact List.map_congr_left fun i _ => by rw [Nat.zero_add]
theorem chain_fits {l : List En} (h : chainT l) : permH l (natsI l.length) ∧ fitsT l (natsI l.length) := by
  refine ⟨⟨natsI_len _, fun i hi => mem_natsI.2 (by omega)⟩, ?_⟩
  unfold fitsT
  rw [List.pairwise_iff_getElem]
  intro a b ha hb hab
  rw [natsI_len] at ha hb
  have e1 := getElem_of (natsI_get ha) (by rw [natsI_len]; exact ha)
  have e2 := getElem_of (natsI_get hb) (by rw [natsI_len]; exact hb)
  rw [e1, e2, chain_later h (by omega) (by omega)]
  omega
theorem nats_map (l : List En) : (natsI l.length).map (enAt l) = l := by
  apply List.ext_getElem?
  intro i
  rw [List.getElem?_map]
  by_cases hi : i < l.length
  · obtain ⟨x, hx⟩ := getSome (l := l) (i := i) hi
    rw [natsI_get hi, hx, Option.map_some, enAt_get hx]
  · rw [List.getElem?_eq_none (by rw [natsI_len]; omega), List.getElem?_eq_none (by omega)]; rfl
theorem doM_e (m : Mo) (o : OpT) : ¬ (doM m o).2.e = 2 := by
  have h1 : ∀ l, ¬ (pairsM l o).2.e = 2 := fun l => by
    unfold pairsM; simp only []
    repeat' split
    all_goals simp
  have h2 : ∀ l, ¬ (rowM l o).2.e = 2 := fun l => by
    unfold rowM
    repeat' split
    all_goals simp
  have h3 : ∀ l, ¬ (heapM l o).2.e = 2 := fun l => by
    unfold heapM
    repeat' split
    all_goals simp
  unfold doM
  repeat' split
  · exact h1 _
  · exact h1 _
  · exact h2 _
  · exact h3 _
def seqF : Nat → Mo → List OpT → List En
  | _, _, [] => []
  | j, m, o :: os => ⟨0, o, (doM m o).2, 2 * (j : Int), 2 * (j : Int) + 1⟩ :: seqF (j + 1) (doM m o).1 os
theorem seqF_app (a b : List OpT) : ∀ (j : Nat) (m : Mo), seqF j m (a ++ b) = seqF j m a ++ seqF (j + a.length) (runM m a).1 b := by
  induction a with
  | nil => intro j m; simp [seqF, runM]
  | cons o a ih => intro j m; simp only [List.cons_append, seqF, runM, ih, List.length_cons]; congr 3; omega
theorem seqF_len : ∀ (os : List OpT) (j : Nat) (m : Mo), (seqF j m os).length = os.length
  | [], _, _ => rfl
  | o :: os, j, m => by simp [seqF, seqF_len os]
theorem seqF_get : ∀ (os : List OpT) (j : Nat) (m : Mo) (i : Nat) (x : En), (seqF j m os)[i]? = some x → x.fr = 2 * ((j + i : Nat) : Int) ∧ x.to = 2 * ((j + i : Nat) : Int) + 1 ∧ os[i]? = some x.op ∧ x.res = (doM (runM m (os.take i)).1 x.op).2
  | [], _, _, i, x, h => by simp [seqF] at h
  | o :: os, j, m, 0, x, h => by simp [seqF] at h; subst h; simp [runM]
  | o :: os, j, m, i + 1, x, h => by
    simp only [seqF, List.getElem?_cons_succ] at h
    obtain ⟨h1, h2, h3, h4⟩ := seqF_get os (j + 1) _ i x h
    refine ⟨by rw [h1]; congr 2; omega, by rw [h2]; congr 3; omega, by simpa using h3, by rw [h4]; simp [runM]⟩
theorem seqF_play : ∀ (os : List OpT) (j : Nat) (m : Mo), playM m (seqF j m os) = some (runM m os).1
  | [], _, _ => rfl
  | o :: os, j, m => by
    have ha : ansM m ⟨0, o, (doM m o).2, 2 * (j : Int), 2 * (j : Int) + 1⟩ = ((doM m o).1, true) := by
      unfold ansM
      rw [if_neg (fun e => doM_e m o (by rw [show (doM m o).2 = fullR from e]; rfl))]
      simp
    simp only [seqF, playM, ha, if_true, runM]
    exact seqF_play os (j + 1) _
theorem seq_chain (os : List OpT) : chainT (seqF 0 m0 os) := fun i x h => by
  obtain ⟨h1, h2, _, _⟩ := seqF_get os 0 m0 i x h
  rw [Nat.zero_add] at h1 h2
  exact ⟨h1, h2⟩
theorem seq_right {os : List OpT} (h : ∀ o ∈ os, okP o) (hl : os.length ≤ 8) : rightH (seqF 0 m0 os) := by
  refine ⟨fun x hx => ?_, by rw [seqF_len]; omega⟩
  obtain ⟨i, hi⟩ := List.getElem?_of_mem hx
  obtain ⟨h1, h2, h3, _⟩ := seqF_get os 0 m0 i x hi
  have := lt_of_get h3
  exact ⟨h _ (List.mem_of_getElem? h3), by omega, by omega, by omega⟩
theorem seq_fits {os : List OpT} (h : ∀ o ∈ os, okP o) (hl : os.length ≤ 8) : fitsM (seqF 0 m0 os) (natsI os.length) = 0 := by
  have hc := chain_fits (seq_chain os)
  rw [seqF_len] at hc
  refine fitsM_zero.2 ⟨seq_right h hl, hc.1, hc.2, (runM m0 os).1, ?_⟩
  have := nats_map (seqF 0 m0 os)
  rw [seqF_len] at this
  rw [this, seqF_play]
theorem seq_order {os : List OpT} (h : ∀ o ∈ os, okP o) (hl : os.length ≤ 8) : orderM (seqF 0 m0 os) = (natsI os.length, 0) := by
  have hr : rightH (seqF 0 m0 os) ∧ (seqF 0 m0 os).length ≤ 8 := ⟨seq_right h hl, by rw [seqF_len]; exact hl⟩
  by_cases h0 : os.length = 0
  · have : os = [] := List.eq_nil_of_length_eq_zero h0
    subst this
    exact orderM_some hr rfl
  · obtain ⟨r, h1, h2⟩ := order_fit hr (seq_fits h hl) (fun e => h0 (by have := natsI_len os.length; rw [e] at this; exact this.symm))
    obtain ⟨_, hp, hf, _⟩ := fitsM_zero.1 h2
    have := chain_one (seq_chain os) hp hf
    rw [seqF_len] at this
    rw [h1, this]
/-- one answer more by one -/
def spoilE (x : En) : En := { x with res := { x.res with b := IntKind.i64.wrap (x.res.b + 1) } }
theorem spoil_ne {x : En} : ¬ (spoilE x).res = x.res := by
  intro e
  have : (spoilE x).res.b = x.res.b := by rw [e]
  show_term exact absurd this (by show ¬ IntKind.i64.wrap (x.res.b + 1) = x.res.b; rw [IntKind.wrap_i64]; omega)
theorem set_chain {l : List En} (h : chainT l) (k : Nat) {x y : En} (hx : l[k]? = some x) (hfr : y.fr = x.fr) (hto : y.to = x.to) : chainT (l.set k y) := by
  intro i z hz
  by_cases e : k = i
  · subst e
    rw [List.getElem?_set_self (lt_of_get hx)] at hz
    cases hz
    rw [hfr, hto]; exact h k x hx
  · rw [List.getElem?_set_ne e] at hz; exact h i z hz
theorem set_right {l : List En} (h : rightH l) (k : Nat) {x y : En} (hx : l[k]? = some x) (hop : y.op = x.op) (hfr : y.fr = x.fr) (hto : y.to = x.to) : rightH (l.set k y) := by
  refine ⟨fun z hz => ?_, by rw [List.length_set]; exact h.2⟩
  rcases List.mem_or_eq_of_mem_set hz with hz | rfl
  · exact h.1 z hz
  · have := h.1 x (List.mem_of_getElem? hx)
    unfold rightE at *
    rw [hop, hfr, hto]; exact this
theorem seq_spoil {os : List OpT} (h : ∀ o ∈ os, okP o) (hl : os.length ≤ 8) {k : Nat} {x : En} (hx : (seqF 0 m0 os)[k]? = some x) : orderM ((seqF 0 m0 os).set k (spoilE x)) = ([], 3) := by
  have hr := set_right (seq_right h hl) k (y := spoilE x) hx rfl rfl rfl
  have hch := set_chain (seq_chain os) k (y := spoilE x) hx rfl rfl
  refine order_none ⟨hr, by rw [List.length_set, seqF_len]; exact hl⟩ fun r hf => ?_
  obtain ⟨_, hp, hT, m, hm⟩ := fitsM_zero.1 hf
  rw [chain_one hch hp hT, nats_map] at hm
  obtain ⟨h1, h2, h3, h4⟩ := seqF_get os 0 m0 k x hx
  have hk := lt_of_get h3
  have e : (seqF 0 m0 os).set k (spoilE x) = seqF 0 m0 (os.take k) ++ spoilE x :: (seqF 0 m0 os).drop (k + 1) := by
    rw [List.set_eq_take_append_cons_drop, if_pos (by rw [seqF_len]; exact hk)]
    congr 1
    conv => lhs; rw [← List.take_append_drop k os, seqF_app]
    rw [List.take_left' (by rw [seqF_len, List.length_take]; omega)]
  rw [e, playM_app, seqF_play] at hm
  have ha : (ansM (runM m0 (os.take k)).1 (spoilE x)).2 = false := by
    unfold ansM
    rw [if_neg (fun e => doM_e (runM m0 (os.take k)).1 x.op (by rw [← h4]; have q : (spoilE x).res.e = 2 := (by rw [e]; rfl); exact q))]
    show decide ((doM (runM m0 (os.take k)).1 x.op).2 = (spoilE x).res) = false
    rw [← h4]
    exact decide_eq_false fun e => spoil_ne e.symm
  simp [playM, ha] at hm
/-- the first one and the last one changed about -/
theorem swap_time {l : List En} (hr : rightH l) (hc : chainT l) (hn : 1 < l.length) : fitsM l (((natsI l.length).set 0 ((l.length : Int) - 1)).set (l.length - 1) 0) = 5 := by
  obtain ⟨n, hnn⟩ : ∃ n, n = l.length := ⟨_, rfl⟩
  rw [← hnn] at hn ⊢
  obtain ⟨q, hq⟩ : ∃ q, q = ((natsI n).set 0 ((n : Int) - 1)).set (n - 1) 0 := ⟨_, rfl⟩
  have hql : q.length = n := by rw [hq, List.length_set, List.length_set, natsI_len]
  have g0 : q[0]? = some ((n : Int) - 1) := by rw [hq, List.getElem?_set_ne (by omega), List.getElem?_set_self (by rw [natsI_len]; omega)]
  have g1 : q[n - 1]? = some 0 := by rw [hq, List.getElem?_set_self (by rw [List.length_set, natsI_len]; omega)]
  have g2 : ∀ i, 0 < i → i < n - 1 → q[i]? = some (i : Int) := fun i h1 h2 => by rw [hq, List.getElem?_set_ne (by omega), List.getElem?_set_ne (by omega), natsI_get (by omega)]
  rw [← hq]
  refine fitsM_time ⟨hr, hql.trans hnn, fun i hi => ?_⟩ fun hf => ?_
  · by_cases i0 : i = 0
    · subst i0; exact List.mem_of_getElem? g1
    · by_cases i1 : i = n - 1
      · have := List.mem_of_getElem? g0
        rw [i1]
        rwa [show ((n : Int) - 1) = ((n - 1 : Nat) : Int) by omega] at this
      · exact List.mem_of_getElem? (g2 i (by omega) (by omega))
  · have h1 := List.pairwise_iff_getElem.1 hf 0 (n - 1) (by omega) (by omega) (by omega)
    rw [getElem_of g0 (by omega), getElem_of g1 (by omega), chain_later hc (by omega) (by omega)] at h1
    omega
end Go.Proofs.Ytlhnnleaiinjaaa
set_option linter.unusedVariables false
set_option linter.unusedSimpArgs false
namespace Go.Proofs.Ytlhnnleaiinjaaa
open Go Go.XL
def En.ok (x : En) : Prop := I64 x.proc ∧ (I64 x.op.box ∧ I64 x.op.kind ∧ I64 x.op.a ∧ I64 x.op.b) ∧ (I64 x.res.e ∧ I64 x.res.a ∧ I64 x.res.b) ∧ I64 x.fr ∧ I64 x.to
theorem fit_op (r : List Value) (h : fitsR [some .i64, some .i64, some .i64, some .i64] r) : ∃ x : OpT, r = x.cells ∧ x.ok := by
  obtain ⟨_, _, rfl, h0, h⟩ := fitsR_cons h
  obtain ⟨_, _, rfl, h1, h⟩ := fitsR_cons h
  obtain ⟨_, _, rfl, h2, h⟩ := fitsR_cons h
  obtain ⟨_, _, rfl, h3, h⟩ := fitsR_cons h
  obtain rfl := fitsR_nil h
  obtain ⟨a, rfl, g⟩ := fitI h0
  obtain ⟨b, rfl, k⟩ := fitI h1
  obtain ⟨c, rfl, k2⟩ := fitI h2
  obtain ⟨d, rfl, k3⟩ := fitI h3
  exact ⟨⟨a, b, c, d⟩, rfl, g, k, k2, k3⟩
section
variable {H : Type} {enc : TypeId × Value → H} {W : World} {base : Nat} {sp : Nat → Bool} {held : Bool} {v : Value} {d : DataW H} {ps : List MemPlace} {r : Reach} {b : Nat}
set_option maxRecDepth 100000 in
theorem open_ops (hok : Value.okWide Try.prog W r b 34 v) (h : DataW.Trod enc Try.prog W base sp held 34 v d ps) : ∃ (a : Option Addr) (l : List OpT) (c : Nat), v = .slice a l.length c ∧ l.length ≤ c ∧ c ≤ maxLen ∧ Sl W a 4 (l.map OpT.cells) ∧ ∀ x ∈ l, x.ok :=
  open_sl OpT.cells OpT.ok sl34 fk40 rfl fit_op hok h
end
end Go.Proofs.Ytlhnnleaiinjaaa
set_option linter.unusedVariables false
set_option linter.unusedSimpArgs false
namespace Go.Proofs.Ytlhnnleaiinjaaa
open Go Go.XL
theorem part_splice {rows : List (List Value)} {sz : Nat} (hl : ∀ r ∈ rows, r.length = sz) {extra vs r : List Value} {i j : Nat} (hr : rows[i]? = some r) (hj : j + vs.length ≤ sz) : splice (rows.flatten ++ extra) (i * sz + j) vs = splice (rows.flatten ++ extra) (i * sz) (splice r j vs) := by
  have hrl := hl r (List.mem_of_getElem? hr)
  have hil := lt_of_get hr
  have hle : (i + 1) * sz ≤ rows.length * sz := Nat.mul_le_mul_right _ hil
  rw [Nat.succ_mul] at hle
  apply List.ext_getElem?
  intro k
  rw [splice_get, splice_get, splice_length, hrl]
  by_cases hk : k < (rows.flatten ++ extra).length
  · rw [if_pos hk, if_pos hk]
    by_cases h1 : i * sz ≤ k ∧ k < i * sz + sz
    · have e2 : (splice r j vs)[k - i * sz]? = if j ≤ k - i * sz ∧ k - i * sz < j + vs.length then vs[k - i * sz - j]? else r[k - i * sz]? := by rw [splice_get, hrl, if_pos (by omega)]
      rw [if_pos h1, e2]
      by_cases h2 : i * sz + j ≤ k ∧ k < i * sz + j + vs.length
      · rw [if_pos h2, if_pos (by omega)]; congr 1; omega
      · rw [if_neg h2, if_neg (by omega), List.getElem?_append_left (by rw [flat_len rows hl]; omega)]
        have := flat_get rows hl i (k - i * sz) r hr (by omega)
        rw [← this]; congr 1; omega
    · rw [if_neg h1, if_neg (by omega)]
  · rw [if_neg hk, if_neg hk]
theorem _root_.Go.XL.Has.part_set {w : World} {b : Nat} {e : TypeId} {sz : Nat} {rows : List (List Value)} {extra vs r : List Value} {i j : Nat} (h : Has w b (splice (rows.flatten ++ extra) (i * sz + j) vs) e) (hl : ∀ r ∈ rows, r.length = sz) (hr : rows[i]? = some r) (hj : j + vs.length ≤ sz) : Has w b ((rows.set i (splice r j vs)).flatten ++ extra) e := by
  rw [part_splice hl hr hj] at h
  exact Has.row_set h hl (lt_of_get hr) (by rw [splice_length]; exact hl r (List.mem_of_getElem? hr))
theorem en_rows (l : List En) : ∀ r ∈ l.map En.cells, r.length = 10 := fun r hr => by obtain ⟨x, _, rfl⟩ := List.mem_map.1 hr; rfl
end Go.Proofs.Ytlhnnleaiinjaaa
set_option linter.unusedVariables false
set_option linter.unusedSimpArgs false
namespace Go.Proofs.Ytlhnnleaiinjaaa
open Go Go.XL
structure HmI (b7 : Nat) (w W : World) (cs : List OpT) (E : List En) (q : List Int) (cur : Mo) (p' : Ph) (M' : Nat → Prop) (a5 : Option Addr) (c5 : Nat) (a6 : Option Addr) (c6 : Nat) : Prop where
  ok : ∀ o ∈ cs, okP o
  l8 : cs.length ≤ 8
  hE : E = seqF 0 m0 cs
  hq : q = natsI cs.length
  hc : cur = (runM m0 cs).1
  hs : MoS p' cur
  hb : Has W b7 [.slice p'.a1 cur.map.length p'.c1, .slice p'.a2 cur.tab.length p'.c2, .slice p'.a3 cur.row.length p'.c3, .slice p'.a4 cur.heap.length p'.c4] 38
  hF : Ft M' (fun u => MoR u p' cur) W
  o5 : Ows w.heap.size W 48 10 (.slice a5 (E.map En.cells).length c5) (E.map En.cells)
  o6 : Ows w.heap.size W 3 1 (.slice a6 (q.map fun x => [i6 x]).length c6) (q.map fun x => [i6 x])
  d1 : ∀ k, M' k → k ≠ b7
  d2 : ∀ k, ob (.slice a5 (E.map En.cells).length c5) = some k → k ≠ b7
  d3 : ∀ k, ob (.slice a6 (q.map fun x => [i6 x]).length c6) = some k → k ≠ b7
  d4 : ∀ k, ob (.slice a5 (E.map En.cells).length c5) = some k → M' k → False
  d5 : ∀ k, ob (.slice a6 (q.map fun x => [i6 x]).length c6) = some k → M' k → False
  d6 : ∀ k, ob (.slice a5 (E.map En.cells).length c5) = some k → ob (.slice a6 (q.map fun x => [i6 x]).length c6) = some k → False
  S : Sub w W
theorem runM_right {cs : List OpT} : ∀ {m : Mo}, rightM m → (∀ o ∈ cs, okP o) → rightM (runM m cs).1 := by
  induction cs with
  | nil => exact fun h _ => h
  | cons o l ih => exact fun h hk => ih (rightM_do h (hk o (by simp))) (fun x hx => hk x (by simp [hx]))
theorem int_rows (l : List Int) : ∀ r ∈ l.map (fun x => [i6 x]), r.length = 1 := fun r hr => by obtain ⟨x, _, rfl⟩ := List.mem_map.1 hr; rfl
theorem _root_.Go.XL.Has.int_set {w : World} {b : Nat} {e : TypeId} {q : List Int} {ex : List Value} {x y : Int} (i : Nat) (h : Has w b (splice ((q.map fun x => [i6 x]).flatten ++ ex) (i * 1 + 0) [i6 x]) e) (hi : q[i]? = some y) : Has w b (((q.set i x).map fun x => [i6 x]).flatten ++ ex) e := by
  have := Has.part_set h (int_rows q) (r := [i6 y]) (by rw [List.getElem?_map, hi]; rfl) (Nat.le_of_ble_eq_true rfl)
  rw [List.map_set]; exact this
set_option maxHeartbeats 2000000 in
theorem law_HistoryModel (w : World) (l : List OpT) (pa : Option Addr) (pc : Nat) (hlc : l.length ≤ pc) (hcm : pc ≤ maxLen) (hs : Sl w pa 4 (l.map OpT.cells)) (hli : ∀ x ∈ l, x.ok) (s0 : Int) (ws : (Lit.int .i64 s0).wf = true) :
    FC Try.prog 5 [.slice pa l.length pc, .int .i64 s0] w (Val (.bool true) w) := by
  have hll : l.length ≤ 9223372036854775807 := Nat.le_trans hlc (Nat.le_trans hcm (by decide))
  have hs0 := wfI ws
  refine FC.intro Try.func5 rfl Try.ntmps5 rfl ?_
  have S := Sub.refl w
  refine RC.seq ?_
  refine RC.region rfl ?_
  refine RL.ev (.assign rfl) rfl rfl ?_
  refine RL.nil (RC.back ?_)
  refine RC.seq ?_
  refine RC.region rfl ?_
  refine RL.ev (.assign rfl) rfl rfl ?_
  refine RL.nil (RC.back ?_)
  refine RC.seq ?_
  refine RC.region rfl ?_
  refine RL.ev (.assign rfl) rfl rfl ?_
  refine RL.nil (RC.back ?_)
  refine RC.seq ?_
  refine RC.region rfl ?_
  refine RL.alloc ze38 rfl rfl (fun b_7 w_7 e_7 z_7 hb_7 s_7 => ?_)
  have ge_7 := S.le e_7
  have S := S.trans s_7
  have h0F : Ft (fun _ => False) (fun u => MoR u p0 m0) w_7 := m0_F _ (fun k hk => hk.elim)
  refine RL.nil (RC.back ?_)
  refine RC.seq ?_
  refine RC.seq ?_
  refine RC.region rfl ?_
  refine RL.ev (.move rfl) rfl rfl ?_
  refine RL.ev (.len sl34 rfl) rfl rfl ?_
  refine RL.ev (.move rfl) rfl rfl ?_
  refine RL.nil (RC.back ?_)
  refine RC.block ?_
  refine RC.loop (α := Nat × List OpT × (List En × Option Addr × Nat) × (List Int × Option Addr × Nat) × Mo × Ph × (Nat → Prop)) (fun x => [(1, .int .i64 s0), (4, .bool false), (5, .slice x.2.2.1.2.1 (x.2.2.1.1.map En.cells).length x.2.2.1.2.2), (6, .slice x.2.2.2.1.2.1 (x.2.2.2.1.1.map fun x => [i6 x]).length x.2.2.2.1.2.2), (7, .pointer (some ⟨b_7, 0, none⟩)), (17, .slice pa l.length pc), (18, .int .i64 (l.length : Int)), (19, .int .i64 (x.1 : Int))]) (fun x w1 => x.1 ≤ l.length ∧ HmI b_7 w w1 x.2.1 x.2.2.1.1 x.2.2.2.1.1 x.2.2.2.2.1 x.2.2.2.2.2.1 x.2.2.2.2.2.2 x.2.2.1.2.1 x.2.2.1.2.2 x.2.2.2.1.2.1 x.2.2.2.1.2.2) (fun x => l.length - x.1) (0, [], ([], none, 0), ([], none, 0), m0, p0, fun _ => False) (keep_of (by repeat (first | exact trivial | refine And.intro rfl ?_))) (⟨Nat.zero_le _, ⟨fun o ho => by simp at ho, by simp, rfl, rfl, rfl, m0_S, hb_7, h0F, Ows.nil _ _ _ _, Ows.nil _ _ _ _, fun k hk => hk.elim, fun k hk => obNil hk, fun k hk => obNil hk, fun k hk => obNil hk, fun k hk => obNil hk, fun k hk => obNil hk, S⟩⟩) (fun x w1 hJ => ?_)
  obtain ⟨i, cs, ⟨E, a5, c5⟩, ⟨q, a6, c6⟩, cur, p', M'⟩ := x; obtain ⟨hi, ⟨hok, hl8, hE, hq, hcur, hsm, hb_7, hF, o5, o6, d1, d2, d3, d4, d5, d6, S⟩⟩ := hJ; simp only [] at hi hok hl8 hE hq hcur hsm hb_7 hF o5 o6 d1 d2 d3 d4 d5 d6; have szB := S.size; have hEl : E.length = cs.length := (by rw [hE, seqF_len]); have hql : q.length = cs.length := (by rw [hq, natsI_len])
  refine RC.seq ?_
  refine RC.region rfl ?_
  refine RL.ev (.bin rfl rfl rfl) rfl rfl ?_
  refine RL.nil (RC.back ?_)
  refine RC.seq ?_
  refine RC.cond_dec rfl (fun h2 => ?_) (fun h2 => ?_)
  ·
    obtain ⟨o, hx⟩ := getSome (l := l) (i := i) (by omega)
    refine RC.skip (RC.back ?_)
    refine RC.seq ?_
    refine RC.block ?_
    refine RC.seq ?_
    refine RC.region rfl ?_
    refine RL.ev (.indexS sl34 rfl rfl (by omega) (hs.is (i := 0) (by simp only [List.length_map, List.length_cons, List.length_nil]; omega))) rfl rfl ?_
    refine RL.ev (.loadR ([.int .i64 o.box, .int .i64 o.kind, .int .i64 o.a, .int .i64 o.b]) sh40 rfl ((hs.sub S).rowAt (enc := OpT.cells) (i := i) hx) rfl) rfl rfl ?_
    refine RL.alloc ze40 rfl rfl (fun b_9 w_9 e_9 z_9 hb_9 s_9 => ?_)
    have ge_9 := S.le e_9
    have n_7__9 := hb_7.ne e_9
    have d_hF_b_9 := hF.neNew e_9
    have d_o5_b_9 := o5.neNew e_9
    have d_o6_b_9 := o6.neNew e_9
    have S := S.trans s_9
    have hb_7 := hb_7.sub s_9
    have hF := hF.sub s_9
    have o5 := o5.sub s_9
    have o6 := o6.sub s_9
    have szB := Nat.le_trans szB s_9.size
    refine RL.store sh40 rfl rfl rfl hb_9 (by exact Nat.le_of_ble_eq_true rfl) (by rfl) rfl (fun w3 z3 hb_9 a3 => ?_)
    have S := S.upd a3 ge_9
    have hb_7 := hb_7.upd a3 n_7__9
    have hF := hF.updD a3 d_hF_b_9
    have o5 := o5.updD a3 d_o5_b_9
    have o6 := o6.updD a3 d_o6_b_9
    have szB := Nat.le_trans szB a3.size
    have hb_9 : Has w3 b_9 ([.int .i64 o.box, .int .i64 o.kind, .int .i64 o.a, .int .i64 o.b]) _ := hb_9.now (by kernel_rfl)
    refine RL.nil (RC.back ?_)
    refine RC.seq ?_
    refine RC.seq ?_
    refine RC.region rfl ?_
    refine RL.ev (.move rfl) rfl rfl ?_
    refine RL.ev (.len sl22 rfl) rfl rfl ?_
    refine RL.ev (.bin rfl rfl rfl) rfl rfl ?_
    refine RL.ev (.move rfl) rfl rfl ?_
    refine RL.split 26 rfl (fun h4 => ?_) (fun h4 => ?_)
    ·
      skip
      refine RL.off rfl rfl ?_
      refine RL.off rfl rfl ?_
      refine RL.off rfl rfl ?_
      refine RL.ev (.pick_t rfl rfl) rfl rfl ?_
      refine RL.nil (RC.back ?_)
      refine RC.cond_t rfl ?_
      refine RC.exit rfl (RC.back ?_)
      refine RC.region rfl ?_
      refine RL.ev (.as (.bin rfl rfl rfl) (wi64 (y := ((i + 1 : Nat) : Int)) (by omega) (by omega))) rfl rfl ?_
      refine RL.ev (.move rfl) rfl rfl ?_
      exact RL.nil (fun a ka => ⟨(i + 1, cs, (E, a5, c5), (q, a6, c6), cur, p', M'), ⟨by omega, ⟨hok, hl8, hE, hq, hcur, hsm, hb_7, hF, o5, o6, d1, d2, d3, d4, d5, d6, S⟩⟩, by omega, ka.keep (keep_of (by repeat (first | exact trivial | refine And.intro rfl ?_)))⟩)
    ·
      have h26 : cs.length < 8 := (by have h := h4; simp only [List.length_map] at h; omega)
      refine RL.ev (.loadR ([.int .i64 o.box, .int .i64 o.kind, .int .i64 o.a, .int .i64 o.b]) sh40 rfl hb_9.row rfl) rfl rfl ?_
      refine RL.call rfl ok15 (c_ref13Right o w3) rfl rfl ?_
      rintro _ w5 ⟨rfl, s6⟩
      have S := S.trans s6
      have hb_7 := hb_7.sub s6
      have hF := hF.sub s6
      have o5 := o5.sub s6
      have o6 := o6.sub s6
      have szB := Nat.le_trans szB s6.size
      have hb_9 := hb_9.sub s6
      refine RL.ev (.not rfl) rfl rfl ?_
      refine RL.ev (.pick_f rfl rfl) rfl rfl ?_
      refine RL.nil (RC.back ?_)
      refine RC.cond rfl (fun h7 => ?_) (fun h7 => ?_)
      ·
        refine RC.exit rfl (RC.back ?_)
        refine RC.region rfl ?_
        refine RL.ev (.as (.bin rfl rfl rfl) (wi64 (y := ((i + 1 : Nat) : Int)) (by omega) (by omega))) rfl rfl ?_
        refine RL.ev (.move rfl) rfl rfl ?_
        exact RL.nil (fun a ka => ⟨(i + 1, cs, (E, a5, c5), (q, a6, c6), cur, p', M'), ⟨by omega, ⟨hok, hl8, hE, hq, hcur, hsm, hb_7, hF, o5, o6, d1, d2, d3, d4, d5, d6, S⟩⟩, by omega, ka.keep (keep_of (by repeat (first | exact trivial | refine And.intro rfl ?_)))⟩)
      ·
        have h30 : okP o := (by have q := h7; simpa using q)
        have hRc : rightM cur := (hcur ▸ runM_right m0_right hok)
        refine RC.skip (RC.back ?_)
        refine RC.seq ?_
        refine RC.region rfl ?_
        refine RL.ev (.loadR ([.slice p'.a1 cur.map.length p'.c1, .slice p'.a2 cur.tab.length p'.c2, .slice p'.a3 cur.row.length p'.c3, .slice p'.a4 cur.heap.length p'.c4]) sh38 rfl hb_7.row rfl) rfl rfl ?_
        refine RL.ev (.loadR ([.int .i64 o.box, .int .i64 o.kind, .int .i64 o.a, .int .i64 o.b]) sh40 rfl hb_9.row rfl) rfl rfl ?_
        refine RL.call rfl ok16 (c_refDo p' cur hsm hRc o h30 w5 M' hF) rfl rfl ?_
        rintro _ w8 ⟨s9, p2, M2, rfl, hs2, hF2, hup2⟩
        obtain ⟨r, hr⟩ : ∃ r, r = doM cur o := ⟨_, rfl⟩
        rw [← hr] at hs2 hF2
        rw [← hr]
        have d_hF2_b_7 := upNe hup2 d1 hb_7.lt
        have dd_o5_hF2 := upDD hup2 d4 (fun k hk => (o5.ge k hk).2)
        have dd_o6_hF2 := upDD hup2 d5 (fun k hk => (o6.ge k hk).2)
        have d_hF2_b_9 := upNe hup2 d_hF_b_9 hb_9.lt
        have S := S.trans s9
        have hb_7 := hb_7.sub s9
        have hF := hF.sub s9
        have o5 := o5.sub s9
        have o6 := o6.sub s9
        have szB := Nat.le_trans szB s9.size
        have hb_9 := hb_9.sub s9
        refine RL.alloc ze45 rfl rfl (fun b_10 w_10 e_10 z_10 hb_10 s_10 => ?_)
        have ge_10 := S.le e_10
        have n_7__10 := hb_7.ne e_10
        have n_9__10 := hb_9.ne e_10
        have d_o5_b_10 := o5.neNew e_10
        have d_o6_b_10 := o6.neNew e_10
        have d_hF2_b_10 := hF2.neNew e_10
        have S := S.trans s_10
        have hb_7 := hb_7.sub s_10
        have o5 := o5.sub s_10
        have o6 := o6.sub s_10
        have szB := Nat.le_trans szB s_10.size
        have hb_9 := hb_9.sub s_10
        have hF2 := hF2.sub s_10
        refine RL.store sh45 rfl rfl rfl hb_10 (by exact Nat.le_of_ble_eq_true rfl) (by rfl) rfl (fun w10 z10 hb_10 a10 => ?_)
        have S := S.upd a10 ge_10
        have hb_7 := hb_7.upd a10 n_7__10
        have o5 := o5.updD a10 d_o5_b_10
        have o6 := o6.updD a10 d_o6_b_10
        have szB := Nat.le_trans szB a10.size
        have hb_9 := hb_9.upd a10 n_9__10
        have hF2 := hF2.updD a10 d_hF2_b_10
        have hb_10 : Has w10 b_10 (moT p2 r.1 r.2) _ := hb_10.now (by kernel_rfl)
        refine RL.nil (RC.back ?_)
        refine RC.seq ?_
        refine RC.region rfl ?_
        refine RL.ev (.move rfl) rfl rfl ?_
        refine RL.ev (.loadR ([.int .i64 o.box, .int .i64 o.kind, .int .i64 o.a, .int .i64 o.b]) sh40 rfl hb_9.row rfl) rfl rfl ?_
        refine RL.ev (.field0 fo45_1 rfl) rfl rfl ?_
        refine RL.ev (.loadR ([.int .i64 r.2.e, .int .i64 r.2.a, .int .i64 r.2.b]) sh43 rfl (Has.row_at (pre := [.slice p2.a1 r.1.map.length p2.c1, .slice p2.a2 r.1.tab.length p2.c2, .slice p2.a3 r.1.row.length p2.c3, .slice p2.a4 r.1.heap.length p2.c4]) (post := []) hb_10 rfl) rfl) rfl rfl ?_
        refine RL.ev (.move rfl) rfl rfl ?_
        refine RL.ev (.len sl22 rfl) rfl rfl ?_
        refine RL.ev (.as (.bin rfl rfl rfl) (wi64 (y := 2 * (cs.length : Int)) (by rw [List.length_map, hEl]) (by omega))) rfl rfl ?_
        refine RL.ev (.move rfl) rfl rfl ?_
        refine RL.ev (.len sl22 rfl) rfl rfl ?_
        refine RL.ev (.as (.bin rfl rfl rfl) (wi64 (y := 2 * (cs.length : Int)) (by rw [List.length_map, hEl]) (by omega))) rfl rfl ?_
        refine RL.ev (.as (.bin rfl rfl rfl) (wi64 (y := 2 * (cs.length : Int) + 1) (by rfl) (by omega))) rfl rfl ?_
        refine RL.ev (.buildS (vs := [(1, .agg #[.int .i64 o.box, .int .i64 o.kind, .int .i64 o.a, .int .i64 o.b]), (2, .agg #[.int .i64 r.2.e, .int .i64 r.2.a, .int .i64 r.2.b]), (3, .int .i64 (2 * (cs.length : Int))), (4, .int .i64 (2 * (cs.length : Int) + 1))]) (cs := (En.cells ⟨0, o, r.2, 2 * (cs.length : Int), 2 * (cs.length : Int) + 1⟩).toArray) ze48 pl48 rfl (by kernel_rfl)) rfl rfl ?_
        refine RL.buildSlice1 sl22 _ ze48 rfl rfl rfl rfl rfl rfl rfl (fun b_46 w_46 e_46 z_46 hb_46 s_46 => ?_)
        have ge_46 := S.le e_46
        have n_7__46 := hb_7.ne e_46
        have n_9__46 := hb_9.ne e_46
        have n_10__46 := hb_10.ne e_46
        have d_o5_b_46 := o5.neNew e_46
        have d_o6_b_46 := o6.neNew e_46
        have d_hF2_b_46 := hF2.neNew e_46
        have S := S.trans s_46
        have hb_7 := hb_7.sub s_46
        have o5 := o5.sub s_46
        have o6 := o6.sub s_46
        have szB := Nat.le_trans szB s_46.size
        have hb_9 := hb_9.sub s_46
        have hF2 := hF2.sub s_46
        have hb_10 := hb_10.sub s_46
        have sz_47 := S.size
        have ltb_7_47 := hb_7.lt
        have ltb_9_47 := hb_9.lt
        have ltb_10_47 := hb_10.lt
        have ltb_46_47 := hb_46.lt
        refine RL.append2 (base := w.heap.size) (rows := E.map En.cells) (news := [_]) sl22 ze48 rfl rfl rfl rfl (.inl o5) (Has.slOne hb_46) rfl (by intro r hr; rw [List.mem_singleton] at hr; subst hr; rfl) rfl (by (try simp only [List.length_map, List.length_nil, List.length_append, List.length_cons]); omega) (by (try simp only [List.length_map, List.length_nil, List.length_append, List.length_cons]); omega) (by omega) rfl rfl (fun v_47 w_47 hc_47 ho_47 ag_47 ob_47 => ?_)
        have o47 := ho_47 (.inl (by simp))
        rw [show _ ++ [_] = ((E ++ [(⟨0, o, r.2, 2 * (cs.length : Int), 2 * (cs.length : Int) + 1⟩ : En)]).map En.cells) from by rw [List.map_append]; rfl] at o47
        have d_o47_b_7 := obNe ob_47 d2 hb_7.lt
        have dd_o47_o6 := obDD ob_47 d6 (fun k hk => (o6.ge k hk).2)
        have d_o47_b_9 := obNe ob_47 d_o5_b_9 hb_9.lt
        have dd_o47_hF2 := obDF ob_47 dd_o5_hF2 (fun k hk => (hF2.ge k hk).2)
        have d_o47_b_10 := obNe ob_47 d_o5_b_10 hb_10.lt
        have S := S.agrN ag_47 (fun k e => Nat.le_trans (by omega) e.2)
        have hb_7 := hb_7.step ag_47 (fun e => d2 _ e.1 rfl)
        have o6 := o6.step ag_47 (fun k hk e => d6 k e.1 hk)
        have szB := Nat.le_trans szB ag_47.size
        have hb_9 := hb_9.step ag_47 (fun e => d_o5_b_9 _ e.1 rfl)
        have hF2 := hF2.step ag_47 (fun k hk e => dd_o5_hF2 k e.1 hk)
        have hb_10 := hb_10.step ag_47 (fun e => d_o5_b_10 _ e.1 rfl)
        obtain ⟨a_47, c_47, rfl, k_47⟩ := o47.form
        refine RL.ev (.assign rfl) rfl rfl ?_
        refine RL.nil (RC.back ?_)
        refine RC.seq ?_
        refine RC.region rfl ?_
        refine RL.ev (.move rfl) rfl rfl ?_
        refine RL.ev (.move rfl) rfl rfl ?_
        refine RL.ev (.as (v' := .int .i64 (cs.length : Int)) (.len sl23 rfl) (by rw [List.length_map, hql])) rfl rfl ?_
        refine RL.buildSlice1 sl23 _ ze3 rfl rfl rfl rfl rfl rfl rfl (fun b_51 w_51 e_51 z_51 hb_51 s_51 => ?_)
        have ge_51 := S.le e_51
        have n_7__51 := hb_7.ne e_51
        have n_9__51 := hb_9.ne e_51
        have n_10__51 := hb_10.ne e_51
        have d_o6_b_51 := o6.neNew e_51
        have d_hF2_b_51 := hF2.neNew e_51
        have d_o47_b_51 := o47.neNew e_51
        have S := S.trans s_51
        have hb_7 := hb_7.sub s_51
        have o6 := o6.sub s_51
        have szB := Nat.le_trans szB s_51.size
        have hb_9 := hb_9.sub s_51
        have hF2 := hF2.sub s_51
        have hb_10 := hb_10.sub s_51
        have o47 := o47.sub s_51
        have sz_52 := S.size
        have ltb_7_52 := hb_7.lt
        have ltb_9_52 := hb_9.lt
        have ltb_10_52 := hb_10.lt
        have ltb_51_52 := hb_51.lt
        refine RL.append2 (base := w.heap.size) (rows := q.map fun x => [i6 x]) (news := [_]) sl23 ze3 rfl rfl rfl rfl (.inl o6) (Has.slOne hb_51) rfl (by intro r hr; rw [List.mem_singleton] at hr; subst hr; rfl) rfl (by (try simp only [List.length_map, List.length_nil, List.length_append, List.length_cons]); omega) (by (try simp only [List.length_map, List.length_nil, List.length_append, List.length_cons]); omega) (by omega) rfl rfl (fun v_52 w_52 hc_52 ho_52 ag_52 ob_52 => ?_)
        have o52 := ho_52 (.inl (by simp))
        rw [show _ ++ [_] = ((q ++ [(cs.length : Int)]).map fun x => [i6 x]) from by rw [List.map_append]; rfl] at o52
        have d_o52_b_7 := obNe ob_52 d3 hb_7.lt
        have d_o52_b_9 := obNe ob_52 d_o6_b_9 hb_9.lt
        have dd_o52_hF2 := obDF ob_52 dd_o6_hF2 (fun k hk => (hF2.ge k hk).2)
        have d_o52_b_10 := obNe ob_52 d_o6_b_10 hb_10.lt
        have dd_o52_o47 := obDD ob_52 (fun k h1 h2 => dd_o47_o6 k h2 h1) (fun k hk => (o47.ge k hk).2)
        have S := S.agrN ag_52 (fun k e => Nat.le_trans (by omega) e.2)
        have hb_7 := hb_7.step ag_52 (fun e => d3 _ e.1 rfl)
        have szB := Nat.le_trans szB ag_52.size
        have hb_9 := hb_9.step ag_52 (fun e => d_o6_b_9 _ e.1 rfl)
        have hF2 := hF2.step ag_52 (fun k hk e => dd_o6_hF2 k e.1 hk)
        have hb_10 := hb_10.step ag_52 (fun e => d_o6_b_10 _ e.1 rfl)
        have o47 := o47.step ag_52 (fun k hk e => (fun k h1 h2 => dd_o47_o6 k h2 h1) k e.1 hk)
        obtain ⟨a_52, c_52, rfl, k_52⟩ := o52.form
        refine RL.ev (.assign rfl) rfl rfl ?_
        refine RL.nil (RC.back ?_)
        refine RC.region rfl ?_
        refine RL.ev (.field0 fo45_0 rfl) rfl rfl ?_
        refine RL.ev (.loadR ([.slice p2.a1 r.1.map.length p2.c1, .slice p2.a2 r.1.tab.length p2.c2, .slice p2.a3 r.1.row.length p2.c3, .slice p2.a4 r.1.heap.length p2.c4]) sh38 rfl (Has.row_at (pre := []) (post := r.2.cells) hb_10 rfl) rfl) rfl rfl ?_
        refine RL.store sh38 rfl rfl rfl hb_7 (by exact Nat.le_of_ble_eq_true rfl) (by rfl) rfl (fun w11 z11 hb_7 a11 => ?_)
        have S := S.upd a11 ge_7
        have szB := Nat.le_trans szB a11.size
        have hb_9 := hb_9.upd a11 n_7__9.symm
        have hF2 := hF2.updD a11 d_hF2_b_7
        have hb_10 := hb_10.upd a11 n_7__10.symm
        have o47 := o47.updD a11 d_o47_b_7
        have o52 := o52.updD a11 d_o52_b_7
        have hb_7 : Has w11 b_7 ([.slice p2.a1 r.1.map.length p2.c1, .slice p2.a2 r.1.tab.length p2.c2, .slice p2.a3 r.1.row.length p2.c3, .slice p2.a4 r.1.heap.length p2.c4]) _ := hb_7.now (by kernel_rfl)
        refine RL.nil (RC.back ?_)
        refine RC.region rfl ?_
        refine RL.ev (.as (.bin rfl rfl rfl) (wi64 (y := ((i + 1 : Nat) : Int)) (by omega) (by omega))) rfl rfl ?_
        refine RL.ev (.move rfl) rfl rfl ?_
        exact RL.nil (fun a ka => ⟨(i + 1, cs ++ [o], (E ++ [⟨0, o, r.2, 2 * (cs.length : Int), 2 * (cs.length : Int) + 1⟩], a_47, c_47), (q ++ [(cs.length : Int)], a_52, c_52), r.1, p2, M2), ⟨by omega, ⟨fun z hz => by rcases List.mem_append.1 hz with hz | hz; exact hok z hz; rw [List.mem_singleton] at hz; rw [hz]; exact h30, by rw [List.length_append, List.length_singleton]; omega, by rw [hE, seqF_app, Nat.zero_add, ← hcur, hr]; rfl, by rw [List.length_append, List.length_singleton, natsI_succ, hq], by rw [runM_app, ← hcur, hr]; rfl, hs2, hb_7, hF2, o47, o52, d_hF2_b_7, d_o47_b_7, d_o52_b_7, dd_o47_hF2, dd_o52_hF2, fun k h1 h2 => dd_o52_o47 k h2 h1, S⟩⟩, by omega, ka.keep (keep_of (by repeat (first | exact trivial | refine And.intro rfl ?_)))⟩)
  ·
    have hE2 : orderM E = (q, 0) := (by rw [hE, hq]; exact seq_order hok hl8)
    have hEr : rightH E := (hE ▸ seq_right hok hl8)
    have hEc : chainT E := (hE ▸ seq_chain cs)
    have hEf : fitsM E q = 0 := (by rw [hE, hq]; exact seq_fits hok hl8)
    have k8 : q.length ≤ c6 := (by obtain ⟨_, _, e, hh⟩ := o6.form; cases e; rw [List.length_map] at hh; exact hh)
    refine RC.exit rfl (RC.back ?_)
    refine RC.seq ?_
    refine RC.region rfl ?_
    refine RL.ev (.move rfl) rfl rfl ?_
    refine RL.call rfl ok7 (c_Order E a5 c5 _ (List.length_map _) (by omega) w1 o5.sl.1) rfl rfl ?_
    rintro _ w12 ⟨s13, a58, c58, rfl, _, hs58⟩
    have S := S.trans s13
    have o5 := o5.sub s13
    have o6 := o6.sub s13
    have szB := Nat.le_trans szB s13.size
    rw [hE2] at hs58
    rw [hE2]
    obtain ⟨W9, S9, hs58⟩ : ∃ W, Sub W w12 ∧ Sl W a58 1 (q.map fun x => [i6 x]) := ⟨_, Sub.refl _, hs58⟩
    refine RL.ev (.move rfl) rfl rfl ?_
    refine RL.ev (.extract rfl rfl) rfl rfl ?_
    refine RL.ev (.extract rfl rfl) rfl rfl ?_
    refine RL.ev (.assign rfl) rfl rfl ?_
    refine RL.ev (.assign rfl) rfl rfl ?_
    refine RL.nil (RC.back ?_)
    refine RC.seq ?_
    refine RC.seq ?_
    refine RC.region rfl ?_
    refine RL.ev (.move rfl) rfl rfl ?_
    refine RL.ev (.as (v' := .bool false) (.bin rfl rfl rfl) (congrArg Value.bool (decide_eq_false (fun h => h rfl)))) rfl rfl ?_
    refine RL.ev (.move rfl) rfl rfl ?_
    refine RL.ev (.move rfl) rfl rfl ?_
    refine RL.ev (.move rfl) rfl rfl ?_
    refine RL.call rfl ok12 (FC.yes (c_same20 q q a58 a6 c58 c6 _ _ (List.length_map _) (List.length_map _) w12 (hs58.sub S9) o6.sl.1 (by omega)) rfl) rfl rfl ?_
    rintro _ w14 ⟨rfl, s15⟩
    have S := S.trans s15
    have o5 := o5.sub s15
    have o6 := o6.sub s15
    have szB := Nat.le_trans szB s15.size
    have S9 := S9.trans s15
    refine RL.ev (.not rfl) rfl rfl ?_
    refine RL.ev (.pick_f rfl rfl) rfl rfl ?_
    refine RL.ev (.move rfl) rfl rfl ?_
    refine RL.ev (.move rfl) rfl rfl ?_
    refine RL.ev (.move rfl) rfl rfl ?_
    refine RL.call rfl ok14 (FC.asV (v' := .int .i64 0) (c_Fits E a5 c5 _ (List.length_map _) (by omega) q a6 c6 _ (List.length_map _) k8 (by omega) w14 o5.sl.1 o6.sl.1) (congrArg (Value.int .i64) hEf)) rfl rfl ?_
    rintro _ w16 ⟨rfl, s17⟩
    have S := S.trans s17
    have o5 := o5.sub s17
    have o6 := o6.sub s17
    have szB := Nat.le_trans szB s17.size
    have S9 := S9.trans s17
    refine RL.ev (.as (v' := .bool false) (.bin rfl rfl rfl) (congrArg Value.bool (decide_eq_false (fun h => h rfl)))) rfl rfl ?_
    refine RL.ev (.pick_f rfl rfl) rfl rfl ?_
    refine RL.ev (.move rfl) rfl rfl ?_
    refine RL.call rfl ok9 (c_alive20 w16) rfl rfl ?_
    rintro _ w18 ⟨rfl, s19⟩
    have S := S.trans s19
    have o5 := o5.sub s19
    have o6 := o6.sub s19
    have szB := Nat.le_trans szB s19.size
    have S9 := S9.trans s19
    refine RL.ev (.not rfl) rfl rfl ?_
    refine RL.ev (.pick_f rfl rfl) rfl rfl ?_
    refine RL.nil (RC.back ?_)
    refine RC.cond_f rfl ?_
    refine RC.skip (RC.back ?_)
    refine RC.seq ?_
    refine RC.region rfl ?_
    refine RL.ev (.move rfl) rfl rfl ?_
    refine RL.ev (.as (v' := .int .i64 (cs.length : Int)) (.len sl22 rfl) (by rw [List.length_map, hEl])) rfl rfl ?_
    refine RL.ev (.assign rfl) rfl rfl ?_
    refine RL.nil (RC.back ?_)
    refine RC.seq ?_
    refine RC.seq ?_
    refine RC.region rfl ?_
    refine RL.ev (.move rfl) rfl rfl ?_
    refine RL.ev (.bin rfl rfl rfl) rfl rfl ?_
    refine RL.nil (RC.back ?_)
    refine RC.cond_dec rfl (fun h20 => ?_) (fun h20 => ?_)
    ·
      skip
      refine RC.seq ?_
      refine RC.region rfl ?_
      refine RL.ev (.assign rfl) rfl rfl ?_
      refine RL.nil (RC.back ?_)
      refine RC.done (rs := [.tmp 4]) (vs := [_]) rfl rfl ⟨rfl, trivial⟩ ?_
      -- end 1
      exact ⟨rfl, S⟩
    ·
      have h82 : 0 < cs.length := (by omega)
      have nk := norm_mod s0 (cs.length : Int) (by omega)
      obtain ⟨k, hk⟩ := Int.eq_ofNat_of_zero_le (Int.emod_nonneg s0 (show (cs.length : Int) ≠ 0 by omega))
      have hkn : k < cs.length := (by have := Int.emod_lt_of_pos s0 (show 0 < (cs.length : Int) by omega); omega)
      rw [hk] at nk
      obtain ⟨x, hxk⟩ := getSome (l := E) (i := k) (by omega)
      refine RC.skip (RC.back ?_)
      refine RC.seq ?_
      refine RC.region rfl ?_
      refine RL.ev (.move rfl) rfl rfl ?_
      refine RL.ev (.move rfl) rfl rfl ?_
      refine RL.ev (.rem rfl rfl (by omega)) rfl rfl ?_
      refine RL.ev (.move rfl) rfl rfl ?_
      refine RL.ev (.as (.bin rfl rfl rfl) (wi64 (y := s0.tmod (cs.length : Int) + (cs.length : Int)) (by rfl) (by omega))) rfl rfl ?_
      refine RL.ev (.move rfl) rfl rfl ?_
      refine RL.ev (.as (v' := .int .i64 (k : Int)) (.rem rfl rfl (by omega)) (by rw [nk.2.2])) rfl rfl ?_
      refine RL.ev (.assign rfl) rfl rfl ?_
      refine RL.nil (RC.back ?_)
      refine RC.seq ?_
      refine RC.region rfl ?_
      refine RL.ev (.move rfl) rfl rfl ?_
      refine RL.ev (.move rfl) rfl rfl ?_
      obtain ⟨b_X, cap_X, ex_X, f_X, g_X, k_X, m_X, hb_X, l_X⟩ := o5.has (by rw [List.length_map]; omega)
      simp only [Value.slice.injEq] at f_X
      obtain ⟨rfl, hlen_X, rfl⟩ := f_X
      have ge_X : w.heap.size ≤ b_X := by omega
      refine RL.ev (.indexO sl22 rfl rfl (by simp only [List.length_map]; omega)) rfl rfl ?_
      refine RL.ev (.field0 fo48_2 rfl) rfl rfl ?_
      refine RL.ev (.field0 fo43_2 rfl) rfl rfl ?_
      refine RL.ev (.load1 sh2 rfl (hb_X.rowCell (enc := En.cells) (sz := 10) (fun _ => rfl) (i := k) (j := 7) hxk rfl (by rw [Nat.zero_add]; rfl))) rfl rfl ?_
      refine RL.ev (.bin rfl rfl rfl) rfl rfl ?_
      refine RL.ev (.indexO sl22 rfl rfl (by simp only [List.length_map]; omega)) rfl rfl ?_
      refine RL.ev (.field0 fo48_2 rfl) rfl rfl ?_
      refine RL.ev (.field0 fo43_2 rfl) rfl rfl ?_
      refine RL.store sh2 rfl rfl rfl hb_X (by rw [List.length_append, flat_len (sz := 10) _ (en_rows _), List.length_map]; show _ + 1 ≤ _; omega) (by rfl) rfl (fun w21 z21 hb_X a21 => ?_)
      have S := S.upd a21 ge_X
      have o6 := o6.updD a21 (fun k hk (e : k = b_X) => d6 k (by rw [e]; rfl) hk)
      have szB := Nat.le_trans szB a21.size
      have hb_X : Has w21 b_X (splice ((E.map En.cells).flatten ++ ex_X) (k * 10 + 7) [.int .i64 (IntKind.i64.wrap (x.res.b + 1))]) 48 := (by have q := hb_X; rw [Nat.zero_add] at q; exact q)
      have hb_X : Has w21 b_X (((E.map En.cells).set k (spoilE x).cells).flatten ++ ex_X) 48 := Has.part_set hb_X (en_rows E) (r := x.cells) (by rw [List.getElem?_map, hxk]; rfl) (Nat.le_of_ble_eq_true rfl)
      have hq2 : orderM (E.set k (spoilE x)) = ([], 3) := (by rw [hE] at hxk ⊢; exact seq_spoil hok hl8 hxk)
      have hEr2 := set_right hEr k (y := spoilE x) hxk rfl rfl rfl
      have hEc2 := set_chain hEc k (y := spoilE x) hxk rfl rfl
      obtain ⟨E2, hE2d⟩ : ∃ L, L = E.set k (spoilE x) := ⟨_, rfl⟩
      have hE2l : E2.length = cs.length := (by rw [hE2d, List.length_set, hEl])
      rw [← hE2d] at hq2 hEr2 hEc2
      have hsX : Sl w21 (some ⟨b_X, 0, none⟩) 10 (E2.map En.cells) := (by rw [hE2d, List.map_set]; exact hb_X.sl (fun q hq => (List.mem_or_eq_of_mem_set hq).elim (en_rows E q) (fun e => by rw [e]; rfl)))
      obtain ⟨W8, S8, hsX⟩ : ∃ W, Sub W w21 ∧ Sl W (some ⟨b_X, 0, none⟩) 10 (E2.map En.cells) := ⟨_, Sub.refl _, hsX⟩
      refine RL.nil (RC.back ?_)
      refine RC.seq ?_
      refine RC.region rfl ?_
      refine RL.ev (.move rfl) rfl rfl ?_
      refine RL.call rfl ok7 (c_Order E2 (some ⟨b_X, 0, none⟩) c5 _ (by simp only [List.length_map]; omega) (by omega) w21 (hsX.sub S8)) rfl rfl ?_
      rintro _ w22 ⟨s23, a102, c102, rfl, _, _⟩
      have S := S.trans s23
      have o6 := o6.sub s23
      have szB := Nat.le_trans szB s23.size
      have hb_X := hb_X.sub s23
      have S8 := S8.trans s23
      rw [hq2]
      refine RL.ev (.move rfl) rfl rfl ?_
      refine RL.ev (.extract rfl rfl) rfl rfl ?_
      refine RL.ev (.extract rfl rfl) rfl rfl ?_
      refine RL.ev (.assign rfl) rfl rfl ?_
      refine RL.ev (.assign rfl) rfl rfl ?_
      refine RL.nil (RC.back ?_)
      refine RC.seq ?_
      refine RC.seq ?_
      refine RC.region rfl ?_
      refine RL.ev (.move rfl) rfl rfl ?_
      refine RL.ev (.bin rfl rfl rfl) rfl rfl ?_
      refine RL.nil (RC.back ?_)
      refine RC.cond_dec rfl (fun h24 => ?_) (fun h24 => ?_)
      ·
        have h106 : 1 < cs.length := (by have h := h24; omega)
        have hft2 : Ft (fun k => k = b_X) (fun u => Sl u (some ⟨b_X, 0, none⟩) 10 (E2.map En.cells)) w22 := (by have q := hb_X; rw [← List.map_set, ← hE2d] at q; exact ⟨fun k hk => hk ▸ q.lt, fun u a => (q.step a (fun hn => hn rfl)).sl (en_rows E2)⟩)
        have hq0 : q[0]? = some ((0 : Nat) : Int) := (hq ▸ natsI_get (by omega))
        have hqn : q[cs.length - 1]? = some ((cs.length - 1 : Nat) : Int) := (hq ▸ natsI_get (by omega))
        obtain ⟨b_Y, cap_Y, ex_Y, f_Y, g_Y, k_Y, m_Y, hb_Y, l_Y⟩ := o6.has (by rw [List.length_map]; omega)
        simp only [Value.slice.injEq] at f_Y
        obtain ⟨rfl, hlen_Y, rfl⟩ := f_Y
        have ge_Y : w.heap.size ≤ b_Y := by omega
        refine RC.seq ?_
        refine RC.drawD (fun k => k = b_Y) [13, 15] w22.heap.size 16 rfl rfl mxo (fun w25 s26 => ?_)
        have hNN : ∀ k, ((k = b_Y) ∨ w22.heap.size ≤ k) → w.heap.size ≤ k := fun k e => e.elim (fun e => e ▸ ge_Y) (fun e => Nat.le_trans S.size e)
        have ent_S := S.size
        have hN0 : ∀ k, w22.heap.size ≤ k → w.heap.size ≤ k := fun k e => Nat.le_trans S.size e
        have ltD_hft2 := fun k hk => (hft2.ge k hk).2
        have ltD_b_Y := hb_Y.lt
        have szD := Nat.le_refl w22.heap.size
        have S := S.trans s26
        have szB := Nat.le_trans szB s26.size
        have hft2 := hft2.sub s26
        have hb_Y := hb_Y.sub s26
        have szD := Nat.le_trans szD s26.size
        refine RD.take 0 rfl (by kernel_rfl) (by kernel_rfl) (by kernel_rfl) (fun w' s' => .move rfl) rfl rfl ?_
        refine RD.take 1 rfl (by kernel_rfl) (by kernel_rfl) (by kernel_rfl) (fun w' s' => .move rfl) rfl rfl ?_
        refine RD.take 2 rfl (by kernel_rfl) (by kernel_rfl) (by kernel_rfl) (fun w' s' => .move rfl) rfl rfl ?_
        refine RD.take 3 rfl (by kernel_rfl) (by kernel_rfl) (by kernel_rfl) (fun w' s' => .as (.bin rfl rfl rfl) (wi64 (y := ((cs.length - 1 : Nat) : Int)) (by omega) (by omega))) rfl rfl ?_
        refine RD.take 4 rfl (by kernel_rfl) (by kernel_rfl) (by kernel_rfl) (fun w' s' => .move rfl) rfl rfl ?_
        refine RD.take 5 rfl (by kernel_rfl) (by kernel_rfl) (by kernel_rfl) (fun w' s' => .move rfl) rfl rfl ?_
        refine RD.take 6 rfl (by kernel_rfl) (by kernel_rfl) (by kernel_rfl) (fun w' s' => .as (.bin rfl rfl rfl) (wi64 (y := ((cs.length - 1 : Nat) : Int)) (by omega) (by omega))) rfl rfl ?_
        refine RD.take 7 rfl (by kernel_rfl) (by kernel_rfl) (by kernel_rfl) (fun w' s' => .indexO sl23 rfl rfl (by simp only [List.length_map]; omega)) rfl rfl ?_
        refine RD.takeL 8 rfl (by kernel_rfl) (by kernel_rfl) (by kernel_rfl) (by kernel_rfl) (fun w' s' => .load1 sh3 rfl (Has.rowCell (enc := fun x : Int => [i6 x]) (sz := 1) (hb_Y.step s' (fun e => Nat.not_le.2 ltD_b_Y e)) (fun _ => rfl) (i := cs.length - 1) (j := 0) hqn rfl (by rw [Nat.zero_add]; rfl))) rfl rfl ?_
        refine RD.take 9 rfl (by kernel_rfl) (by kernel_rfl) (by kernel_rfl) (fun w' s' => .move rfl) rfl rfl ?_
        refine RD.take 10 rfl (by kernel_rfl) (by kernel_rfl) (by kernel_rfl) (fun w' s' => .indexO sl23 rfl rfl (by simp only [List.length_map]; omega)) rfl rfl ?_
        refine RD.takeL 11 rfl (by kernel_rfl) (by kernel_rfl) (by kernel_rfl) (by kernel_rfl) (fun w' s' => .load1 sh3 rfl (Has.rowCell (enc := fun x : Int => [i6 x]) (sz := 1) (hb_Y.step s' (fun e => Nat.not_le.2 ltD_b_Y e)) (fun _ => rfl) (i := 0) (j := 0) hq0 rfl rfl)) rfl rfl ?_
        refine RD.take 12 rfl (by kernel_rfl) (by kernel_rfl) (by kernel_rfl) (fun w' s' => .indexO sl23 rfl rfl (by simp only [List.length_map]; omega)) rfl rfl ?_
        refine RD.all [13] (by kernel_rfl) rfl (RDs.cons rfl ?_ (RDs.nil))
        refine RL.store sh3 rfl rfl rfl hb_Y (by rw [List.length_append, flat_len (sz := 1) _ (int_rows _), List.length_map]; show 0 + 0 * 1 + 1 ≤ _; omega) (by rfl) rfl (fun w27 z27 hb_Y a27 => ?_)
        have S := S.upd a27 ge_Y
        have szB := Nat.le_trans szB a27.size
        have hft2 := hft2.updD a27 (fun k hk (e : k = b_Y) => (fun k h1 (h2 : k = b_X) => d6 k (by rw [h2]; rfl) h1) k (by rw [e]; rfl) hk)
        have szD := Nat.le_trans szD a27.size
        have hb_Y := Has.int_set 0 (x := ((cs.length - 1 : Nat) : Int)) hb_Y hq0
        refine RD.backW rfl (a27.mono fun k _ e => e ▸ (.inl (rfl))) ?_
        refine RD.take 14 rfl (by kernel_rfl) (by kernel_rfl) (by kernel_rfl) (fun w' s' => .indexO sl23 rfl rfl (by simp only [List.length_map]; omega)) rfl rfl ?_
        refine RD.all [15] (by kernel_rfl) rfl (RDs.cons rfl ?_ (RDs.nil))
        refine RL.store sh3 rfl rfl rfl hb_Y (by rw [List.length_append, flat_len (sz := 1) _ (int_rows _), List.length_map, List.length_set]; show 0 + (cs.length - 1) * 1 + 1 ≤ _; omega) (by rfl) rfl (fun w28 z28 hb_Y a28 => ?_)
        have S := S.upd a28 ge_Y
        have szB := Nat.le_trans szB a28.size
        have hft2 := hft2.updD a28 (fun k hk (e : k = b_Y) => (fun k h1 (h2 : k = b_X) => d6 k (by rw [h2]; rfl) h1) k (by rw [e]; rfl) hk)
        have szD := Nat.le_trans szD a28.size
        have hb_Y := Has.int_set (cs.length - 1) (x := ((0 : Nat) : Int)) (q := q.set 0 ((cs.length - 1 : Nat) : Int)) (by have r := hb_Y; rw [Nat.zero_add] at r; exact r) (by rw [List.getElem?_set_ne (by omega)]; exact hqn)
        refine RD.backW rfl (a28.mono fun k _ e => e ▸ (.inl (rfl))) ?_
        refine RD.done (by kernel_rfl) (RC.back ?_)
        refine RC.seq ?_
        refine RC.region rfl ?_
        refine RL.ev (.move rfl) rfl rfl ?_
        refine RL.ev (.move rfl) rfl rfl ?_
        refine RL.call rfl ok14 (FC.asV (v' := .int .i64 5) (c_Fits E2 (some ⟨b_X, 0, none⟩) c5 _ (by simp only [List.length_map]; omega) (by omega) ((q.set 0 ((cs.length - 1 : Nat) : Int)).set (cs.length - 1) ((0 : Nat) : Int)) (some ⟨b_Y, 0, none⟩) c6 _ (by simp only [List.length_map, List.length_set]) (by simp only [List.length_set]; omega) (by simp only [List.length_set]; omega) w28 hft2.now (hb_Y.sl (int_rows _))) (congrArg (Value.int .i64) (by have q5 := swap_time hEr2 hEc2 (by omega); rw [hE2l, ← hq] at q5; rw [show ((cs.length - 1 : Nat) : Int) = (cs.length : Int) - 1 by omega]; exact q5))) rfl rfl ?_
        rintro _ w29 ⟨rfl, s30⟩
        have S := S.trans s30
        have szB := Nat.le_trans szB s30.size
        have hft2 := hft2.sub s30
        have hb_Y := hb_Y.sub s30
        refine RL.ev (.as (v' := .bool false) (.bin rfl rfl rfl) (congrArg Value.bool (decide_eq_false (fun h => h rfl)))) rfl rfl ?_
        refine RL.nil (RC.back ?_)
        refine RC.cond_f rfl ?_
        refine RC.skip (RC.back ?_)
        refine RC.seq ?_
        refine RC.region rfl ?_
        refine RL.ev (.move rfl) rfl rfl ?_
        refine RL.ev (.as (v' := .bool true) (.bin rfl rfl rfl) (congrArg Value.bool (decide_eq_true (rfl)))) rfl rfl ?_
        refine RL.ev (.assign rfl) rfl rfl ?_
        refine RL.nil (RC.back ?_)
        refine RC.done (rs := [.tmp 4]) (vs := [_]) rfl rfl ⟨rfl, trivial⟩ ?_
        -- end 2
        exact ⟨rfl, S⟩
      ·
        refine RC.skip (RC.back ?_)
        refine RC.seq ?_
        refine RC.region rfl ?_
        refine RL.ev (.move rfl) rfl rfl ?_
        refine RL.ev (.as (v' := .bool true) (.bin rfl rfl rfl) (congrArg Value.bool (decide_eq_true (rfl)))) rfl rfl ?_
        refine RL.ev (.assign rfl) rfl rfl ?_
        refine RL.nil (RC.back ?_)
        refine RC.done (rs := [.tmp 4]) (vs := [_]) rfl rfl ⟨rfl, trivial⟩ ?_
        -- end 3
        exact ⟨rfl, S⟩
end Go.Proofs.Ytlhnnleaiinjaaa
