/-
  What the law HistoryOverlaps leans on, part 4.
-/
import Derived.Test.YtlhnnleaiinjaaaPHistoryOverlaps3
set_option linter.unusedVariables false
set_option linter.unusedSimpArgs false
namespace Go.Proofs.Ytlhnnleaiinjaaa
open Go Go.XL
theorem m0_right : rightM m0 := by
  rw [rightM_iff]
  refine ⟨fun i x y h => by simp [m0] at h, fun x h => by simp [m0] at h, ⟨fun x h => by simp [m0] at h, by decide⟩, ⟨fun x h => by simp [m0] at h, by decide⟩, ⟨fun x h => by simp [m0] at h, by decide⟩, by decide, List.Pairwise.nil, List.Pairwise.nil⟩
instance (l : List En) (i j : Int) : Decidable (laterP l i j) := by unfold laterP; infer_instance
theorem fitsT_step {l : List En} {o : List Int} {i : Nat} {x : Int} (hx : o[i]? = some x) : fitsT l (o.take (i + 1)) ↔ fitsT l (o.take i) ∧ ∀ j ∈ o.take i, ¬ laterP l j x := by
  unfold fitsT
  rw [List.take_add_one, hx, List.pairwise_append]
  simp
theorem fitsT_sub {l : List En} {o : List Int} (i : Nat) (h : fitsT l o) : fitsT l (o.take i) := List.Pairwise.sublist (List.take_sublist _ _) h
noncomputable def orderM (l : List En) : List Int × Int := cond (pB (rightH l ∧ l.length ≤ 8)) (match tryM l l.length [] m0 with | some r => (r, 0) | none => ([], 3)) ([], 1)
theorem orderM_no {l : List En} (h : ¬ (rightH l ∧ l.length ≤ 8)) : orderM l = ([], 1) := by unfold orderM; rw [pB_no h]; rfl
theorem orderM_some {l : List En} (h : rightH l ∧ l.length ≤ 8) {r : List Int} (hr : tryM l l.length [] m0 = some r) : orderM l = (r, 0) := by unfold orderM; rw [pB_yes h, hr]; rfl
theorem orderM_none {l : List En} (h : rightH l ∧ l.length ≤ 8) (hr : tryM l l.length [] m0 = none) : orderM l = ([], 3) := by unfold orderM; rw [pB_yes h, hr]; rfl
def AnsO (w w' : World) (q : List Int × Int) (u : Value) : Prop := Sub w w' ∧ ∃ a c, u = .tuple #[.slice a (q.1.map fun x => [i6 x]).length c, .int .i64 q.2] ∧ q.1.length ≤ c ∧ Sl w' a 1 (q.1.map fun x => [i6 x])
theorem c_Order (l : List En) (la : Option Addr) (lc m : Nat) (hm : m = l.length) (hlen : l.length ≤ 1000) (w : World) (hl : Sl w la 10 (l.map En.cells)) :
    FC Try.prog 7 [.slice la m lc] w (fun u w' => AnsO w w' (orderM l) u) := by
  subst hm
  refine FC.intro Try.func7 rfl Try.ntmps7 rfl ?_
  have S := Sub.refl w
  refine RC.seq ?_
  refine RC.region rfl ?_
  refine RL.box rfl rfl rfl (fun b_1 w_1 e_1 z_1 hb_1 s_1 => ?_)
  have ge_1 := S.le e_1
  have S := S.trans s_1
  refine RL.ev (.assign rfl) rfl rfl ?_
  refine RL.ev (.assign rfl) rfl rfl ?_
  refine RL.nil (RC.back ?_)
  refine RC.seq ?_
  refine RC.seq ?_
  refine RC.region rfl ?_
  refine RL.ev (.load1 sh22 rfl (hb_1.cell rfl)) rfl rfl ?_
  refine RL.call rfl ok13 (c_hRight l la lc _ rfl w_1 (hl.sub S) (by omega)) rfl rfl ?_
  rintro _ w1 ⟨rfl, s2⟩
  have S := S.trans s2
  have hb_1 := hb_1.sub s2
  refine RL.ev (.not rfl) rfl rfl ?_
  refine RL.ev (.move rfl) rfl rfl ?_
  refine RL.splitB 9 rfl (fun h3 => ?_) (fun h3 => ?_)
  ·
    have g9 : ¬ rightH l := (fun e => by rw [pB_yes e] at h3; cases h3)
    refine RL.off rfl rfl ?_
    refine RL.off rfl rfl ?_
    refine RL.off rfl rfl ?_
    refine RL.ev (.pick_t rfl rfl) rfl rfl ?_
    refine RL.nil (RC.back ?_)
    refine RC.cond_t rfl ?_
    refine RC.seq ?_
    refine RC.region rfl ?_
    refine RL.ev (.assign rfl) rfl rfl ?_
    refine RL.ev (.assign rfl) rfl rfl ?_
    refine RL.nil (RC.back ?_)
    refine RC.done (rs := [.tmp 2, .tmp 3]) (vs := [_, _]) rfl rfl ⟨rfl, rfl, trivial⟩ ?_
    -- end 1
    rw [orderM_no (fun e => g9 e.1)]
    exact ⟨S, none, 0, rfl, Nat.le_refl _, Sl.nil _ _ _⟩
  ·
    have g9 : rightH l := (by have q := h3; rw [Bool.not_eq_false'] at q; exact pB_iff.1 q)
    refine RL.ev (.load1 sh22 rfl (hb_1.cell rfl)) rfl rfl ?_
    refine RL.ev (.len sl22 rfl) rfl rfl ?_
    refine RL.ev (.bin rfl rfl rfl) rfl rfl ?_
    refine RL.ev (.pick_f rfl rfl) rfl rfl ?_
    refine RL.nil (RC.back ?_)
    refine RC.cond_dec rfl (fun h4 => ?_) (fun h4 => ?_)
    ·
      have g13 : ¬ l.length ≤ 8 := (by omega)
      refine RC.seq ?_
      refine RC.region rfl ?_
      refine RL.ev (.assign rfl) rfl rfl ?_
      refine RL.ev (.assign rfl) rfl rfl ?_
      refine RL.nil (RC.back ?_)
      refine RC.done (rs := [.tmp 2, .tmp 3]) (vs := [_, _]) rfl rfl ⟨rfl, rfl, trivial⟩ ?_
      -- end 2
      rw [orderM_no (fun e => g13 e.2)]
      exact ⟨S, none, 0, rfl, Nat.le_refl _, Sl.nil _ _ _⟩
    ·
      have g13 : rightH l ∧ l.length ≤ 8 := ⟨g9, by omega⟩
      refine RC.skip (RC.back ?_)
      refine RC.seq ?_
      refine RC.region rfl ?_
      refine RL.alloc ze23 rfl rfl (fun b_4 w_4 e_4 z_4 hb_4 s_4 => ?_)
      have ge_4 := S.le e_4
      have n_1__4 := hb_1.ne e_4
      have S := S.trans s_4
      have hb_1 := hb_1.sub s_4
      refine RL.nil (RC.back ?_)
      refine RC.seq ?_
      refine RC.region rfl ?_
      refine RL.alloc ze51 rfl rfl (fun b_5 w_5 e_5 z_5 hb_5 s_5 => ?_)
      have ge_5 := S.le e_5
      have n_1__5 := hb_1.ne e_5
      have n_4__5 := hb_4.ne e_5
      have S := S.trans s_5
      have hb_1 := hb_1.sub s_5
      have hb_4 := hb_4.sub s_5
      refine RL.nil (RC.back ?_)
      refine RC.seq ?_
      refine RC.region rfl ?_
      refine RL.ev (.func (xs := []) (ys := [_, _, _]) rfl rfl) rfl rfl ?_
      refine RL.store sh51 rfl rfl rfl hb_5 (by exact Nat.le_of_ble_eq_true rfl) (by rfl) rfl (fun w5 z5 hb_5 a5 => ?_)
      have S := S.upd a5 ge_5
      have hb_1 := hb_1.upd a5 n_1__5
      have hb_4 := hb_4.upd a5 n_4__5
      have hb_5 : Has w5 b_5 ([.func (.func 17) #[] #[.pointer (some ⟨b_4, 0, none⟩), .pointer (some ⟨b_1, 0, none⟩), .pointer (some ⟨b_5, 0, none⟩)]]) _ := hb_5
      refine RL.nil (RC.back ?_)
      refine RC.seq ?_
      refine RC.seq ?_
      refine RC.region rfl ?_
      refine RL.ev (.load1 sh51 rfl (hb_5.cell rfl)) rfl rfl ?_
      refine RL.ev (.as (v' := moV p0 m0) (.buildS ze38 pl38 rfl rfl) (by rfl)) rfl rfl ?_
      refine RL.callv rfl rfl (us := []) (cs := [.pointer (some ⟨b_4, 0, none⟩), .pointer (some ⟨b_1, 0, none⟩), .pointer (some ⟨b_5, 0, none⟩)]) ok17 (c_try l la lc b_4 b_1 b_5 w hl hlen g9 n_1__4.symm n_4__5 n_1__5 ge_4 ge_1 ge_5 l.length [] m0 p0 (fun _ => False) none 0 w5 (by simp) (by simp) m0_right ⟨Nat.le_refl _, Nat.le_refl _, Nat.le_refl _, Nat.le_refl _, Nat.zero_le _, Nat.zero_le _, Nat.zero_le _, Nat.zero_le _⟩ ⟨S, hb_1, hb_5, hb_4, Ows.nil _ _ _ _, ⟨fun k hk => hk.elim, fun u _ => ⟨Sl.nil _ _ _, Sl.nil _ _ _, Sl.nil _ _ _, Sl.nil _ _ _⟩⟩, fun k hk => obNil hk, fun k hk => obNil hk, fun k hk => obNil hk, fun k hk => hk.elim, fun k hk => obNil hk, fun k hk => hk.elim, fun k hk => hk.elim⟩) rfl rfl ?_
      rintro _ w6 ⟨oa3, oc3, rfl, S', hb_4', ow3, a17, _⟩
      have S := S'
      have hb_4 := hb_4'
      refine RL.ev (.not rfl) rfl rfl ?_
      refine RL.nil (RC.back ?_)
      refine RC.cond rfl (fun h8 => ?_) (fun h8 => ?_)
      ·
        have hnone : tryM l l.length [] m0 = none := (by have q := h8; simpa using q)
        refine RC.seq ?_
        refine RC.region rfl ?_
        refine RL.ev (.assign rfl) rfl rfl ?_
        refine RL.ev (.assign rfl) rfl rfl ?_
        refine RL.nil (RC.back ?_)
        refine RC.done (rs := [.tmp 2, .tmp 3]) (vs := [_, _]) rfl rfl ⟨rfl, rfl, trivial⟩ ?_
        -- end 3
        rw [orderM_none g13 hnone]
        exact ⟨S, none, 0, rfl, Nat.le_refl _, Sl.nil _ _ _⟩
      ·
        obtain ⟨rr, hsome⟩ : ∃ rr, tryM l l.length [] m0 = some rr := Option.isSome_iff_exists.1 (by have q := h8; simpa using q)
        rw [hsome] at hb_4 ow3
        refine RC.skip (RC.back ?_)
        refine RC.seq ?_
        refine RC.region rfl ?_
        refine RL.ev (.load1 sh23 rfl (hb_4.cell rfl)) rfl rfl ?_
        refine RL.ev (.assign rfl) rfl rfl ?_
        refine RL.ev (.assign rfl) rfl rfl ?_
        refine RL.nil (RC.back ?_)
        refine RC.done (rs := [.tmp 2, .tmp 3]) (vs := [_, _]) rfl rfl ⟨rfl, rfl, trivial⟩ ?_
        -- end 4
        rw [orderM_some g13 hsome]
        exact ⟨S, oa3, oc3, rfl, (by obtain ⟨_, _, e, hh⟩ := ow3.form; cases e; rw [List.length_map] at hh; exact hh), ow3.sl.1⟩
theorem c_fits1 (l : List En) (la : Option Addr) (lc : Nat) (bl bi : Nat) (i j : Int) (hi : 0 ≤ i ∧ i < l.length) (hj : 0 ≤ j ∧ j < l.length) (w : World) (hbi : Has w bi [i6 i] 3) (hbl : Has w bl [.slice la l.length lc] 22) (hl : Sl w la 10 (l.map En.cells)) :
    FC Try.prog 28 [.int .i64 j, .pointer (some ⟨bl, 0, none⟩), .pointer (some ⟨bi, 0, none⟩)] w (Val (.bool (decide (laterP l j i))) w) := by
  obtain ⟨jn, rfl⟩ := Int.eq_ofNat_of_zero_le hj.1
  obtain ⟨y, hy⟩ := getSome (l := l) (i := jn) (by omega)
  obtain ⟨en, rfl⟩ := Int.eq_ofNat_of_zero_le hi.1
  obtain ⟨x, hx⟩ := getSome (l := l) (i := en) (by omega)
  refine FC.intro Try.func28 rfl Try.ntmps28 rfl ?_
  have S := Sub.refl w
  refine RC.seq ?_
  refine RC.region rfl ?_
  refine RL.ev (.assign rfl) rfl rfl ?_
  refine RL.nil (RC.back ?_)
  refine RC.seq ?_
  refine RC.draw rfl mxo (by kernel_rfl) ?_
  refine RQ.ev (.load1 sh22 rfl (hbl.cell rfl)) rfl rfl ?_
  refine RQ.ev (.load1 sh3 rfl (hbi.cell rfl)) rfl rfl ?_
  refine RQ.ev (.indexS sl22 rfl rfl (by omega) (hl.is (i := 0) (by simp only [List.length_map, List.length_cons, List.length_nil]; omega))) rfl rfl ?_
  refine RQ.ev (.loadR (x.cells) sh48 rfl (hl.rowAt (enc := En.cells) (i := en) hx) rfl) rfl rfl ?_
  refine RQ.ev (.load1 sh22 rfl (hbl.cell rfl)) rfl rfl ?_
  refine RQ.ev (.move rfl) rfl rfl ?_
  refine RQ.ev (.indexS sl22 rfl rfl (by omega) (hl.is (i := 0) (by simp only [List.length_map, List.length_cons, List.length_nil]; omega))) rfl rfl ?_
  refine RQ.ev (.loadR (y.cells) sh48 rfl (hl.rowAt (enc := En.cells) (i := jn) hy) rfl) rfl rfl ?_
  refine RQ.call rfl ok20 (fun w' s' => c_ahead x y w') rfl rfl ?_
  refine RQ.ev (.assign rfl) rfl rfl ?_
  refine RQ.nil (fun w1 s2 => RC.back ?_)
  have S := S.trans s2
  have hbi := hbi.sub s2
  have hbl := hbl.sub s2
  refine RC.done (rs := [.tmp 4]) (vs := [_]) rfl rfl ⟨rfl, trivial⟩ ?_
  -- end 1
  refine ⟨congrArg Value.bool (decide_eq_decide.2 ?_), S⟩
  unfold laterP
  rw [enAt_get hx, enAt_get hy]
theorem playM_step {l : List En} {o : List Int} {i : Nat} {x : Int} {m : Mo} (hx : o[i]? = some x) (h : playM m0 ((o.take i).map (enAt l)) = some m) : playM m0 ((o.take (i + 1)).map (enAt l)) = if (ansM m (enAt l x)).2 then some (ansM m (enAt l x)).1 else none := by
  rw [List.take_add_one, hx, List.map_append, playM_app, h]
  simp [playM]
theorem playM_dead {l : List En} {o : List Int} {i : Nat} (h : playM m0 ((o.take i).map (enAt l)) = none) : playM m0 (o.map (enAt l)) = none := by
  conv => lhs; rw [← List.take_append_drop i o]
  rw [List.map_append, playM_app, h]; rfl
set_option maxHeartbeats 1000000 in
theorem c_Fits (l : List En) (la : Option Addr) (lc m : Nat) (hm : m = l.length) (hlen : l.length ≤ 1000) (o : List Int) (oa : Option Addr) (oc n : Nat) (hn : n = o.length) (hoc : o.length ≤ oc) (hol : o.length ≤ 1000) (w : World) (hl : Sl w la 10 (l.map En.cells)) (ho : Sl w oa 1 (o.map fun x => [i6 x])) :
    FC Try.prog 14 [.slice la m lc, .slice oa n oc] w (Val (.int .i64 (fitsM l o)) w) := by
  subst hm hn
  refine FC.intro Try.func14 rfl Try.ntmps14 rfl ?_
  have S := Sub.refl w
  refine RC.seq ?_
  refine RC.region rfl ?_
  refine RL.box rfl rfl rfl (fun b_2 w_2 e_2 z_2 hb_2 s_2 => ?_)
  have ge_2 := S.le e_2
  have S := S.trans s_2
  refine RL.ev (.assign rfl) rfl rfl ?_
  refine RL.nil (RC.back ?_)
  refine RC.scope ?_
  refine RC.seq ?_
  refine RC.seq ?_
  refine RC.region rfl ?_
  refine RL.ev (.load1 sh22 rfl (hb_2.cell rfl)) rfl rfl ?_
  refine RL.call rfl ok13 (c_hRight l la lc _ rfl w_2 (hl.sub S) (by omega)) rfl rfl ?_
  rintro _ w1 ⟨rfl, s2⟩
  have S := S.trans s2
  have hb_2 := hb_2.sub s2
  refine RL.ev (.not rfl) rfl rfl ?_
  refine RL.ev (.move rfl) rfl rfl ?_
  refine RL.splitB 18 rfl (fun h3 => ?_) (fun h3 => ?_)
  ·
    have g18 : ¬ rightH l := (fun e => by rw [pB_yes e] at h3; cases h3)
    refine RL.off rfl rfl ?_
    refine RL.off rfl rfl ?_
    refine RL.off rfl rfl ?_
    refine RL.off rfl rfl ?_
    refine RL.off rfl rfl ?_
    refine RL.ev (.pick_t rfl rfl) rfl rfl ?_
    refine RL.nil (RC.back ?_)
    refine RC.cond_t rfl ?_
    refine RC.seq ?_
    refine RC.region rfl ?_
    refine RL.ev (.assign rfl) rfl rfl ?_
    refine RL.nil (RC.back ?_)
    refine RC.done (rs := [.tmp 4]) (vs := [_]) rfl rfl ⟨rfl, trivial⟩ ?_
    -- end 1
    rw [fitsM_no (fun e => g18 e.1)]
    exact ⟨rfl, S⟩
  ·
    have g18 : rightH l := (by have q := h3; rw [Bool.not_eq_false'] at q; exact pB_iff.1 q)
    refine RL.ev (.move rfl) rfl rfl ?_
    refine RL.ev (.len sl23 rfl) rfl rfl ?_
    refine RL.ev (.load1 sh22 rfl (hb_2.cell rfl)) rfl rfl ?_
    refine RL.ev (.len sl22 rfl) rfl rfl ?_
    refine RL.ev (.bin rfl rfl rfl) rfl rfl ?_
    refine RL.ev (.pick_f rfl rfl) rfl rfl ?_
    refine RL.nil (RC.back ?_)
    refine RC.cond_dec rfl (fun h4 => ?_) (fun h4 => ?_)
    ·
      have g24 : ¬ o.length = l.length := (by omega)
      refine RC.seq ?_
      refine RC.region rfl ?_
      refine RL.ev (.assign rfl) rfl rfl ?_
      refine RL.nil (RC.back ?_)
      refine RC.done (rs := [.tmp 4]) (vs := [_]) rfl rfl ⟨rfl, trivial⟩ ?_
      -- end 2
      rw [fitsM_no (fun e => g24 e.2.1)]
      exact ⟨rfl, S⟩
    ·
      have g24 : o.length = l.length := (by omega)
      refine RC.skip (RC.back ?_)
      refine RC.seq ?_
      refine RC.label (RC.back ?_)
      refine RC.seq ?_
      refine RC.seq ?_
      refine RC.region rfl ?_
      refine RL.ev (.load1 sh22 rfl (hb_2.cell rfl)) rfl rfl ?_
      refine RL.ev (.len sl22 rfl) rfl rfl ?_
      refine RL.ev (.move rfl) rfl rfl ?_
      refine RL.nil (RC.back ?_)
      refine RC.block ?_
      refine RC.loop (α := Nat) (fun i => [(1, .slice oa o.length oc), (2, .pointer (some ⟨b_2, 0, none⟩)), (26, .int .i64 (l.length : Int)), (27, .int .i64 (i : Int))]) (fun i w5 => (i ≤ l.length ∧ ∀ j : Nat, j < i → (j : Int) ∈ o) ∧ Has w5 b_2 [.slice la l.length lc] 22 ∧ Sub w w5) (fun i => l.length - i) 0 (keep_of (by repeat (first | exact trivial | refine And.intro rfl ?_))) (⟨⟨Nat.zero_le _, fun j h => absurd h (Nat.not_lt_zero _)⟩, hb_2, S⟩) (fun i w5 hJ => ?_)
      obtain ⟨⟨hi, hall⟩, hb_2, S⟩ := hJ
      refine RC.seq ?_
      refine RC.region rfl ?_
      refine RL.ev (.bin rfl rfl rfl) rfl rfl ?_
      refine RL.nil (RC.back ?_)
      refine RC.seq ?_
      refine RC.cond_dec rfl (fun h6 => ?_) (fun h6 => ?_)
      ·
        have hil : i < l.length := (by omega)
        refine RC.skip (RC.back ?_)
        refine RC.seq ?_
        refine RC.block ?_
        refine RC.seq ?_
        refine RC.region rfl ?_
        refine RL.ev (.move rfl) rfl rfl ?_
        refine RL.ev (.assign rfl) rfl rfl ?_
        refine RL.nil (RC.back ?_)
        refine RC.seq ?_
        refine RC.seq ?_
        refine RC.region rfl ?_
        refine RL.ev (.move rfl) rfl rfl ?_
        refine RL.ev (.len sl23 rfl) rfl rfl ?_
        refine RL.ev (.move rfl) rfl rfl ?_
        refine RL.nil (RC.back ?_)
        refine RC.block ?_
        refine RC.loop (α := Nat) (fun j => [(1, .slice oa o.length oc), (2, .pointer (some ⟨b_2, 0, none⟩)), (5, .int .i64 (i : Int)), (26, .int .i64 (l.length : Int)), (27, .int .i64 (i : Int)), (30, .slice oa o.length oc), (31, .int .i64 (o.length : Int)), (32, .int .i64 (j : Int))]) (fun j w7 => (j ≤ o.length ∧ ∀ x ∈ o.take j, ¬ x = (i : Int)) ∧ Has w7 b_2 [.slice la l.length lc] 22 ∧ Sub w w7) (fun j => o.length - j) 0 (keep_of (by repeat (first | exact trivial | refine And.intro rfl ?_))) (⟨⟨Nat.zero_le _, by simp⟩, hb_2, S⟩) (fun j w7 hJ => ?_)
        obtain ⟨⟨hj, hp⟩, hb_2, S⟩ := hJ
        refine RC.seq ?_
        refine RC.region rfl ?_
        refine RL.ev (.bin rfl rfl rfl) rfl rfl ?_
        refine RL.nil (RC.back ?_)
        refine RC.seq ?_
        refine RC.cond_dec rfl (fun h8 => ?_) (fun h8 => ?_)
        ·
          obtain ⟨x, hx⟩ := getSome (l := o) (i := j) (by omega)
          refine RC.skip (RC.back ?_)
          refine RC.seq ?_
          refine RC.block ?_
          refine RC.seq ?_
          refine RC.region rfl ?_
          refine RL.ev (.indexS sl23 rfl rfl (by omega) (ho.is (i := 0) (by simp only [List.length_map, List.length_cons, List.length_nil]; omega))) rfl rfl ?_
          refine RL.ev (.load1 sh3 rfl ((ho.sub S).one (enc := i6) (i := j) hx)) rfl rfl ?_
          refine RL.ev (.assign rfl) rfl rfl ?_
          refine RL.nil (RC.back ?_)
          refine RC.seq ?_
          refine RC.region rfl ?_
          refine RL.ev (.move rfl) rfl rfl ?_
          refine RL.ev (.move rfl) rfl rfl ?_
          refine RL.ev (.bin rfl rfl rfl) rfl rfl ?_
          refine RL.nil (RC.back ?_)
          refine RC.cond_dec rfl (fun h9 => ?_) (fun h9 => ?_)
          ·
            have hin : (i : Int) ∈ o := (by rw [← show x = (i : Int) from h9]; exact List.mem_of_getElem? hx)
            refine RC.exit rfl (RC.back ?_)
            refine RC.region rfl ?_
            refine RL.ev (.as (.bin rfl rfl rfl) (wi64 (y := ((i + 1 : Nat) : Int)) (by omega) (by omega))) rfl rfl ?_
            refine RL.ev (.move rfl) rfl rfl ?_
            exact RL.nil (fun a ka => ⟨i + 1, ⟨⟨by omega, fun q hq => by rcases Nat.lt_or_eq_of_le (Nat.le_of_lt_succ hq) with h | h; exact hall q h; rw [h]; exact hin⟩, hb_2, S⟩, by omega, ka.keep (keep_of (by repeat (first | exact trivial | refine And.intro rfl ?_)))⟩)
          ·
            have g38 : ¬ x = (i : Int) := h9
            refine RC.skip (RC.back ?_)
            refine RC.region rfl ?_
            refine RL.ev (.as (.bin rfl rfl rfl) (wi64 (y := ((j + 1 : Nat) : Int)) (by omega) (by omega))) rfl rfl ?_
            refine RL.ev (.move rfl) rfl rfl ?_
            exact RL.nil (fun a ka => ⟨j + 1, ⟨⟨by omega, fun z hz => by rw [List.take_add_one, hx] at hz; rcases List.mem_append.1 hz with hz | hz; exact hp z hz; have e : z = x := (by simpa using hz); rw [e]; exact g38⟩, hb_2, S⟩, by omega, ka.keep (keep_of (by repeat (first | exact trivial | refine And.intro rfl ?_)))⟩)
        ·
          obtain rfl : j = o.length := (by omega)
          rw [List.take_length] at hp
          refine RC.exit rfl (RC.back ?_)
          refine RC.seq ?_
          refine RC.region rfl ?_
          refine RL.ev (.assign rfl) rfl rfl ?_
          refine RL.nil (RC.back ?_)
          refine RC.done (rs := [.tmp 4]) (vs := [_]) rfl rfl ⟨rfl, trivial⟩ ?_
          -- end 3
          rw [fitsM_no (fun e => hp _ (e.2.2 i hil) rfl)]
          exact ⟨rfl, S⟩
      ·
        obtain rfl : i = l.length := (by omega)
        have hpm : permH l o := ⟨g24, hall⟩
        obtain ⟨hrng, hnd⟩ := perm_once g24 hall
        refine RC.exit rfl (RC.back ?_)
        refine RC.seq ?_
        refine RC.seq ?_
        refine RC.region rfl ?_
        refine RL.ev (.move rfl) rfl rfl ?_
        refine RL.ev (.len sl23 rfl) rfl rfl ?_
        refine RL.ev (.move rfl) rfl rfl ?_
        refine RL.nil (RC.back ?_)
        refine RC.block ?_
        refine RC.loop (α := Nat) (fun i => [(1, .slice oa o.length oc), (2, .pointer (some ⟨b_2, 0, none⟩)), (41, .slice oa o.length oc), (42, .int .i64 (o.length : Int)), (43, .int .i64 (i : Int))]) (fun i w10 => (i ≤ o.length ∧ fitsT l (o.take i)) ∧ Has w10 b_2 [.slice la l.length lc] 22 ∧ Sub w w10) (fun i => o.length - i) 0 (keep_of (by repeat (first | exact trivial | refine And.intro rfl ?_))) (⟨⟨Nat.zero_le _, List.Pairwise.nil⟩, hb_2, S⟩) (fun i w10 hJ => ?_)
        obtain ⟨⟨hi, hft⟩, hb_2, S⟩ := hJ
        refine RC.seq ?_
        refine RC.region rfl ?_
        refine RL.ev (.bin rfl rfl rfl) rfl rfl ?_
        refine RL.nil (RC.back ?_)
        refine RC.seq ?_
        refine RC.cond_dec rfl (fun h11 => ?_) (fun h11 => ?_)
        ·
          obtain ⟨x, hx⟩ := getSome (l := o) (i := i) (by omega)
          have hxr := hrng x (List.mem_of_getElem? hx)
          have hst := fitsT_step (l := l) hx
          refine RC.skip (RC.back ?_)
          refine RC.seq ?_
          refine RC.block ?_
          refine RC.seq ?_
          refine RC.region rfl ?_
          refine RL.ev (.move rfl) rfl rfl ?_
          refine RL.ev (.indexS sl23 rfl rfl (by omega) (ho.is (i := 0) (by simp only [List.length_map, List.length_cons, List.length_nil]; omega))) rfl rfl ?_
          refine RL.ev (.load1 sh3 rfl ((ho.sub S).one (enc := i6) (i := i) hx)) rfl rfl ?_
          refine RL.alloc ze3 rfl rfl (fun b_9 w_9 e_9 z_9 hb_9 s_9 => ?_)
          have ge_9 := S.le e_9
          have n_2__9 := hb_2.ne e_9
          have S := S.trans s_9
          have hb_2 := hb_2.sub s_9
          refine RL.ev (.assign rfl) rfl rfl ?_
          refine RL.store sh3 rfl rfl rfl hb_9 (by exact Nat.le_of_ble_eq_true rfl) (by rfl) rfl (fun w12 z12 hb_9 a12 => ?_)
          have S := S.upd a12 ge_9
          have hb_2 := hb_2.upd a12 n_2__9
          have hb_9 : Has w12 b_9 ([i6 x]) _ := hb_9
          refine RL.nil (RC.back ?_)
          refine RC.seq ?_
          refine RC.region rfl ?_
          refine RL.ev (.move rfl) rfl rfl ?_
          refine RL.ev (.move rfl) rfl rfl ?_
          refine RL.ev (.as (v' := .slice oa (o.take i).length oc) (.sliceHi sl23 rfl rfl (by omega)) (by rw [List.length_take, Nat.min_eq_left hi]; rfl)) rfl rfl ?_
          refine RL.ev (.func (xs := []) (ys := [_, _]) rfl rfl) rfl rfl ?_
          refine RL.call rfl ok21 (c_containsFI 28 ok28 [.pointer (some ⟨b_2, 0, none⟩), .pointer (some ⟨b_9, 0, none⟩)] (fun j => decide (laterP l j x)) (o.take i) oa oc _ rfl w12 (fun j hj w' s => c_fits1 l la lc b_2 b_9 x j hxr (hrng j (List.mem_of_mem_take hj)) w' (hb_9.sub s) (hb_2.sub s) ((hl.sub S).sub s)) (by rw [List.map_take]; exact (ho.sub S).take i) (by rw [List.length_take]; omega)) rfl rfl ?_
          rintro _ w13 ⟨rfl, s14⟩
          have S := S.trans s14
          have hb_2 := hb_2.sub s14
          have hb_9 := hb_9.sub s14
          refine RL.nil (RC.back ?_)
          refine RC.cond rfl (fun h15 => ?_) (fun h15 => ?_)
          ·
            have h52 : ¬ fitsT l o := (fun e => by obtain ⟨j, hj, hq⟩ := List.any_eq_true.1 h15; exact (hst.1 (fitsT_sub (i + 1) e)).2 j hj (of_decide_eq_true hq))
            refine RC.seq ?_
            refine RC.region rfl ?_
            refine RL.ev (.assign rfl) rfl rfl ?_
            refine RL.nil (RC.back ?_)
            refine RC.done (rs := [.tmp 4]) (vs := [_]) rfl rfl ⟨rfl, trivial⟩ ?_
            -- end 4
            rw [fitsM_time ⟨g18, hpm⟩ h52]
            exact ⟨rfl, S⟩
          ·
            have h52 : fitsT l (o.take (i + 1)) := hst.2 ⟨hft, fun j hj => by have q := List.any_eq_false.1 h15 j hj; simpa using q⟩
            refine RC.skip (RC.back ?_)
            refine RC.region rfl ?_
            refine RL.ev (.as (.bin rfl rfl rfl) (wi64 (y := ((i + 1 : Nat) : Int)) (by omega) (by omega))) rfl rfl ?_
            refine RL.ev (.move rfl) rfl rfl ?_
            exact RL.nil (fun a ka => ⟨i + 1, ⟨⟨by omega, h52⟩, hb_2, S⟩, by omega, ka.keep (keep_of (by repeat (first | exact trivial | refine And.intro rfl ?_)))⟩)
        ·
          obtain rfl : i = o.length := (by omega)
          rw [List.take_length] at hft
          have h0F : Ft (fun _ => False) (fun u => MoR u p0 m0) w10 := m0_F _ (fun k hk => hk.elim)
          refine RC.exit rfl (RC.back ?_)
          refine RC.seq ?_
          refine RC.region rfl ?_
          refine RL.alloc ze38 rfl rfl (fun b_10 w_10 e_10 z_10 hb_10 s_10 => ?_)
          have ge_10 := S.le e_10
          have n_2__10 := hb_2.ne e_10
          have d_h0F_b_10 := h0F.neNew e_10
          have S := S.trans s_10
          have hb_2 := hb_2.sub s_10
          have h0F := h0F.sub s_10
          refine RL.nil (RC.back ?_)
          refine RC.seq ?_
          refine RC.seq ?_
          refine RC.region rfl ?_
          refine RL.ev (.move rfl) rfl rfl ?_
          refine RL.ev (.len sl23 rfl) rfl rfl ?_
          refine RL.ev (.move rfl) rfl rfl ?_
          refine RL.nil (RC.back ?_)
          refine RC.block ?_
          refine RC.loop (α := Nat × Mo × Ph × (Nat → Prop)) (fun x => [(1, .slice oa o.length oc), (2, .pointer (some ⟨b_2, 0, none⟩)), (10, .pointer (some ⟨b_10, 0, none⟩)), (54, .slice oa o.length oc), (55, .int .i64 (o.length : Int)), (56, .int .i64 (x.1 : Int))]) (fun x w16 => (x.1 ≤ o.length ∧ rightM x.2.1 ∧ MoS x.2.2.1 x.2.1 ∧ playM m0 ((o.take x.1).map (enAt l)) = some x.2.1) ∧ Has w16 b_2 [.slice la l.length lc] 22 ∧ Has w16 b_10 [.slice x.2.2.1.a1 x.2.1.map.length x.2.2.1.c1, .slice x.2.2.1.a2 x.2.1.tab.length x.2.2.1.c2, .slice x.2.2.1.a3 x.2.1.row.length x.2.2.1.c3, .slice x.2.2.1.a4 x.2.1.heap.length x.2.2.1.c4] 38 ∧ Ft x.2.2.2 (fun u => MoR u x.2.2.1 x.2.1) w16 ∧ (∀ k, x.2.2.2 k → k ≠ b_2) ∧ (∀ k, x.2.2.2 k → k ≠ b_10) ∧ Sub w w16) (fun x => o.length - x.1) (0, m0, p0, fun _ => False) (keep_of (by repeat (first | exact trivial | refine And.intro rfl ?_))) (⟨⟨Nat.zero_le _, m0_right, m0_S, rfl⟩, hb_2, hb_10, h0F, fun k hk => hk.elim, fun k hk => hk.elim, S⟩) (fun x w16 hJ => ?_)
          obtain ⟨i, cur, p', M'⟩ := x; obtain ⟨⟨hi, hRc, hsc, hplay⟩, hb_2, hb_10, hF, d1, d2, S⟩ := hJ; simp only [] at hi hRc hsc hplay hb_10 hF d1 d2
          refine RC.seq ?_
          refine RC.region rfl ?_
          refine RL.ev (.bin rfl rfl rfl) rfl rfl ?_
          refine RL.nil (RC.back ?_)
          refine RC.seq ?_
          refine RC.cond_dec rfl (fun h17 => ?_) (fun h17 => ?_)
          ·
            obtain ⟨x, hx⟩ := getSome (l := o) (i := i) (by omega)
            have hxr := hrng x (List.mem_of_getElem? hx)
            have hst := playM_step hx hplay
            obtain ⟨xn, rfl⟩ := Int.eq_ofNat_of_zero_le hxr.1
            obtain ⟨y, hy⟩ := getSome (l := l) (i := xn) (by omega)
            rw [enAt_get hy] at hst
            have hyr : rightE y := g18.1 y (List.mem_of_getElem? hy)
            refine RC.skip (RC.back ?_)
            refine RC.seq ?_
            refine RC.block ?_
            refine RC.seq ?_
            refine RC.region rfl ?_
            refine RL.ev (.indexS sl23 rfl rfl (by omega) (ho.is (i := 0) (by simp only [List.length_map, List.length_cons, List.length_nil]; omega))) rfl rfl ?_
            refine RL.ev (.load1 sh3 rfl ((ho.sub S).one (enc := i6) (i := i) hx)) rfl rfl ?_
            refine RL.ev (.assign rfl) rfl rfl ?_
            refine RL.nil (RC.back ?_)
            refine RC.seq ?_
            refine RC.drawD (fun k => False) [10] w16.heap.size 12 rfl rfl mxo (fun w18 s19 => ?_)
            have hNN : ∀ k, ((False) ∨ w16.heap.size ≤ k) → w.heap.size ≤ k := fun k e => e.elim (fun e => e.elim) (fun e => Nat.le_trans S.size e)
            have ent_S := S.size
            have hN0 : ∀ k, w16.heap.size ≤ k → w.heap.size ≤ k := fun k e => Nat.le_trans S.size e
            have ltD_b_2 := hb_2.lt
            have ltD_b_10 := hb_10.lt
            have ltD_hF := fun k hk => (hF.ge k hk).2
            have szD := Nat.le_refl w16.heap.size
            have S := S.trans s19
            have hb_2 := hb_2.sub s19
            have hb_10 := hb_10.sub s19
            have hF := hF.sub s19
            have szD := Nat.le_trans szD s19.size
            refine RD.take 0 rfl (by kernel_rfl) (by kernel_rfl) (by kernel_rfl) (fun w' s' => .loadR ([.slice p'.a1 cur.map.length p'.c1, .slice p'.a2 cur.tab.length p'.c2, .slice p'.a3 cur.row.length p'.c3, .slice p'.a4 cur.heap.length p'.c4]) sh38 rfl (hb_10.step s' (fun e => e.elim (fun e => e.elim) (fun e => Nat.not_le.2 ltD_b_10 e))).row rfl) rfl rfl ?_
            refine RD.take 1 rfl (by kernel_rfl) (by kernel_rfl) (by kernel_rfl) (fun w' s' => .load1 sh22 rfl ((hb_2.step s' (fun e => e.elim (fun e => e.elim) (fun e => Nat.not_le.2 ltD_b_2 e))).cell rfl)) rfl rfl ?_
            refine RD.take 2 rfl (by kernel_rfl) (by kernel_rfl) (by kernel_rfl) (fun w' s' => .move rfl) rfl rfl ?_
            refine RD.take 3 rfl (by kernel_rfl) (by kernel_rfl) (by kernel_rfl) (fun w' s' => .indexS sl22 rfl rfl (by omega) (hl.is (i := 0) (by simp only [List.length_map, List.length_cons, List.length_nil]; omega))) rfl rfl ?_
            refine RD.take 4 rfl (by kernel_rfl) (by kernel_rfl) (by kernel_rfl) (fun w' s' => .loadR (y.cells) sh48 rfl ((hl.sub (S.agrN s' hNN)).rowAt (enc := En.cells) (i := xn) hy) rfl) rfl rfl ?_
            refine RD.all [5, 9] (by kernel_rfl) rfl (RDs.cons rfl ?_ (RDs.cons rfl ?_ (RDs.nil)))
            ·
              refine RL.call rfl ok23 (c_answers p' cur hsc hRc y hyr w18 M' hF) rfl rfl ?_
              rintro _ w20 ⟨s21, p2, M2, r, rfl, hs2, hF2, hup2, hr⟩
              have d_hF2_b_2 := upNe hup2 d1 hb_2.lt
              have d_hF2_b_10 := upNe hup2 d2 hb_10.lt
              have S := S.trans s21
              have hb_2 := hb_2.sub s21
              have hb_10 := hb_10.sub s21
              have hF := hF.sub s21
              have szD := Nat.le_trans szD s21.size
              refine RD.back s21.agr ?_
              refine RD.take 6 rfl (by kernel_rfl) (by kernel_rfl) (by kernel_rfl) (fun w' s' => .move rfl) rfl rfl ?_
              refine RD.take 7 rfl (by kernel_rfl) (by kernel_rfl) (by kernel_rfl) (fun w' s' => .extract rfl rfl) rfl rfl ?_
              refine RD.take 8 rfl (by kernel_rfl) (by kernel_rfl) (by kernel_rfl) (fun w' s' => .extract rfl rfl) rfl rfl ?_
              refine RD.all [9] (by kernel_rfl) rfl (RDs.cons rfl ?_ (RDs.nil))
              refine RL.alloc ze38 rfl rfl (fun b_13 w_13 e_13 z_13 hb_13 s_13 => ?_)
              have fr_b_13 : w16.heap.size ≤ b_13 := by rw [e_13]; exact szD
              have ge_13 := S.le e_13
              have n_2__13 := hb_2.ne e_13
              have n_10__13 := hb_10.ne e_13
              have d_hF_b_13 := hF.neNew e_13
              have d_hF2_b_13 := hF2.neNew e_13
              have S := S.trans s_13
              have hb_2 := hb_2.sub s_13
              have hb_10 := hb_10.sub s_13
              have hF := hF.sub s_13
              have szD := Nat.le_trans szD s_13.size
              have hF2 := hF2.sub s_13
              refine RD.back s_13.agr ?_
              refine RD.all [10] (by kernel_rfl) rfl (RDs.cons rfl ?_ (RDs.nil))
              refine RL.store sh38 rfl rfl rfl hb_13 (by exact Nat.le_of_ble_eq_true rfl) (by rfl) rfl (fun w22 z22 hb_13 a22 => ?_)
              have S := S.upd a22 ge_13
              have hb_2 := hb_2.upd a22 n_2__13
              have hb_10 := hb_10.upd a22 n_10__13
              have hF := hF.updD a22 d_hF_b_13
              have szD := Nat.le_trans szD a22.size
              have hF2 := hF2.updD a22 d_hF2_b_13
              have hb_13 : Has w22 b_13 ([.slice p2.a1 r.map.length p2.c1, .slice p2.a2 r.tab.length p2.c2, .slice p2.a3 r.row.length p2.c3, .slice p2.a4 r.heap.length p2.c4]) _ := hb_13.now (by kernel_rfl)
              refine RD.backW rfl (a22.mono fun k _ e => e ▸ (.inr fr_b_13)) ?_
              refine RD.take 11 rfl (by kernel_rfl) (by kernel_rfl) (by kernel_rfl) (fun w' s' => .assign rfl) rfl rfl ?_
              refine RD.done (by kernel_rfl) (RC.back ?_)
              refine RC.seq ?_
              refine RC.seq ?_
              refine RC.region rfl ?_
              refine RL.ev (.move rfl) rfl rfl ?_
              refine RL.ev (.not rfl) rfl rfl ?_
              refine RL.nil (RC.back ?_)
              refine RC.cond rfl (fun h23 => ?_) (fun h23 => ?_)
              ·
                have g70 : (ansM cur y).2 = false := (by have q := h23; simpa using q)
                have hdead : playM m0 (o.map (enAt l)) = none := playM_dead (i := i + 1) (by rw [hst, g70]; rfl)
                refine RC.seq ?_
                refine RC.region rfl ?_
                refine RL.ev (.assign rfl) rfl rfl ?_
                refine RL.nil (RC.back ?_)
                refine RC.done (rs := [.tmp 4]) (vs := [_]) rfl rfl ⟨rfl, trivial⟩ ?_
                -- end 5
                rw [fitsM_play ⟨g18, hpm⟩ hft hdead]
                exact ⟨rfl, S⟩
              ·
                have g70 : (ansM cur y).2 = true := (by have q := h23; simpa using q)
                have hrr := hr g70
                rw [g70, if_pos rfl, ← hrr] at hst
                have hRr : rightM r := (hrr ▸ ansM_right hRc hyr)
                refine RC.skip (RC.back ?_)
                refine RC.region rfl ?_
                refine RL.ev (.loadR ([.slice p2.a1 r.map.length p2.c1, .slice p2.a2 r.tab.length p2.c2, .slice p2.a3 r.row.length p2.c3, .slice p2.a4 r.heap.length p2.c4]) sh38 rfl hb_13.row rfl) rfl rfl ?_
                refine RL.store sh38 rfl rfl rfl hb_10 (by exact Nat.le_of_ble_eq_true rfl) (by rfl) rfl (fun w24 z24 hb_10 a24 => ?_)
                have S := S.upd a24 ge_10
                have hb_2 := hb_2.upd a24 n_2__10
                have hF := hF.updD a24 d2
                have hF2 := hF2.updD a24 d_hF2_b_10
                have hb_13 := hb_13.upd a24 n_10__13.symm
                have hb_10 : Has w24 b_10 ([.slice p2.a1 r.map.length p2.c1, .slice p2.a2 r.tab.length p2.c2, .slice p2.a3 r.row.length p2.c3, .slice p2.a4 r.heap.length p2.c4]) _ := hb_10.now (by kernel_rfl)
                refine RL.nil (RC.back ?_)
                refine RC.region rfl ?_
                refine RL.ev (.as (.bin rfl rfl rfl) (wi64 (y := ((i + 1 : Nat) : Int)) (by omega) (by omega))) rfl rfl ?_
                refine RL.ev (.move rfl) rfl rfl ?_
                exact RL.nil (fun a ka => ⟨(i + 1, r, p2, M2), ⟨⟨by omega, hRr, hs2, hst⟩, hb_2, hb_10, hF2, d_hF2_b_2, d_hF2_b_10, S⟩, by omega, ka.keep (keep_of (by repeat (first | exact trivial | refine And.intro rfl ?_)))⟩)
            ·
              refine RL.alloc ze38 rfl rfl (fun b_13 w_13 e_13 z_13 hb_13 s_13 => ?_)
              have fr_b_13 : w16.heap.size ≤ b_13 := by rw [e_13]; exact szD
              have ge_13 := S.le e_13
              have n_2__13 := hb_2.ne e_13
              have n_10__13 := hb_10.ne e_13
              have d_hF_b_13 := hF.neNew e_13
              have S := S.trans s_13
              have hb_2 := hb_2.sub s_13
              have hb_10 := hb_10.sub s_13
              have hF := hF.sub s_13
              have szD := Nat.le_trans szD s_13.size
              refine RD.back s_13.agr ?_
              refine RD.all [5] (by kernel_rfl) rfl (RDs.cons rfl ?_ (RDs.nil))
              refine RL.call rfl ok23 (c_answers p' cur hsc hRc y hyr w_13 M' hF) rfl rfl ?_
              rintro _ w25 ⟨s26, p2, M2, r, rfl, hs2, hF2, hup2, hr⟩
              have d_hF2_b_2 := upNe hup2 d1 hb_2.lt
              have d_hF2_b_10 := upNe hup2 d2 hb_10.lt
              have d_hF2_b_13 := upNe hup2 d_hF_b_13 hb_13.lt
              have S := S.trans s26
              have hb_2 := hb_2.sub s26
              have hb_10 := hb_10.sub s26
              have hF := hF.sub s26
              have szD := Nat.le_trans szD s26.size
              have hb_13 := hb_13.sub s26
              refine RD.back s26.agr ?_
              refine RD.take 6 rfl (by kernel_rfl) (by kernel_rfl) (by kernel_rfl) (fun w' s' => .move rfl) rfl rfl ?_
              refine RD.take 7 rfl (by kernel_rfl) (by kernel_rfl) (by kernel_rfl) (fun w' s' => .extract rfl rfl) rfl rfl ?_
              refine RD.take 8 rfl (by kernel_rfl) (by kernel_rfl) (by kernel_rfl) (fun w' s' => .extract rfl rfl) rfl rfl ?_
              refine RD.all [10] (by kernel_rfl) rfl (RDs.cons rfl ?_ (RDs.nil))
              refine RL.store sh38 rfl rfl rfl hb_13 (by exact Nat.le_of_ble_eq_true rfl) (by rfl) rfl (fun w27 z27 hb_13 a27 => ?_)
              have S := S.upd a27 ge_13
              have hb_2 := hb_2.upd a27 n_2__13
              have hb_10 := hb_10.upd a27 n_10__13
              have hF := hF.updD a27 d_hF_b_13
              have szD := Nat.le_trans szD a27.size
              have hF2 := hF2.updD a27 d_hF2_b_13
              have hb_13 : Has w27 b_13 ([.slice p2.a1 r.map.length p2.c1, .slice p2.a2 r.tab.length p2.c2, .slice p2.a3 r.row.length p2.c3, .slice p2.a4 r.heap.length p2.c4]) _ := hb_13.now (by kernel_rfl)
              refine RD.backW rfl (a27.mono fun k _ e => e ▸ (.inr fr_b_13)) ?_
              refine RD.take 11 rfl (by kernel_rfl) (by kernel_rfl) (by kernel_rfl) (fun w' s' => .assign rfl) rfl rfl ?_
              refine RD.done (by kernel_rfl) (RC.back ?_)
              refine RC.seq ?_
              refine RC.seq ?_
              refine RC.region rfl ?_
              refine RL.ev (.move rfl) rfl rfl ?_
              refine RL.ev (.not rfl) rfl rfl ?_
              refine RL.nil (RC.back ?_)
              refine RC.cond rfl (fun h28 => ?_) (fun h28 => ?_)
              ·
                have g70 : (ansM cur y).2 = false := (by have q := h28; simpa using q)
                have hdead : playM m0 (o.map (enAt l)) = none := playM_dead (i := i + 1) (by rw [hst, g70]; rfl)
                refine RC.seq ?_
                refine RC.region rfl ?_
                refine RL.ev (.assign rfl) rfl rfl ?_
                refine RL.nil (RC.back ?_)
                refine RC.done (rs := [.tmp 4]) (vs := [_]) rfl rfl ⟨rfl, trivial⟩ ?_
                -- end 6
                rw [fitsM_play ⟨g18, hpm⟩ hft hdead]
                exact ⟨rfl, S⟩
              ·
                have g70 : (ansM cur y).2 = true := (by have q := h28; simpa using q)
                have hrr := hr g70
                rw [g70, if_pos rfl, ← hrr] at hst
                have hRr : rightM r := (hrr ▸ ansM_right hRc hyr)
                refine RC.skip (RC.back ?_)
                refine RC.region rfl ?_
                refine RL.ev (.loadR ([.slice p2.a1 r.map.length p2.c1, .slice p2.a2 r.tab.length p2.c2, .slice p2.a3 r.row.length p2.c3, .slice p2.a4 r.heap.length p2.c4]) sh38 rfl hb_13.row rfl) rfl rfl ?_
                refine RL.store sh38 rfl rfl rfl hb_10 (by exact Nat.le_of_ble_eq_true rfl) (by rfl) rfl (fun w29 z29 hb_10 a29 => ?_)
                have S := S.upd a29 ge_10
                have hb_2 := hb_2.upd a29 n_2__10
                have hF := hF.updD a29 d2
                have hb_13 := hb_13.upd a29 n_10__13.symm
                have hF2 := hF2.updD a29 d_hF2_b_10
                have hb_10 : Has w29 b_10 ([.slice p2.a1 r.map.length p2.c1, .slice p2.a2 r.tab.length p2.c2, .slice p2.a3 r.row.length p2.c3, .slice p2.a4 r.heap.length p2.c4]) _ := hb_10.now (by kernel_rfl)
                refine RL.nil (RC.back ?_)
                refine RC.region rfl ?_
                refine RL.ev (.as (.bin rfl rfl rfl) (wi64 (y := ((i + 1 : Nat) : Int)) (by omega) (by omega))) rfl rfl ?_
                refine RL.ev (.move rfl) rfl rfl ?_
                exact RL.nil (fun a ka => ⟨(i + 1, r, p2, M2), ⟨⟨by omega, hRr, hs2, hst⟩, hb_2, hb_10, hF2, d_hF2_b_2, d_hF2_b_10, S⟩, by omega, ka.keep (keep_of (by repeat (first | exact trivial | refine And.intro rfl ?_)))⟩)
          ·
            obtain rfl : i = o.length := (by omega)
            rw [List.take_length] at hplay
            refine RC.exit rfl (RC.back ?_)
            refine RC.seq ?_
            refine RC.region rfl ?_
            refine RL.ev (.assign rfl) rfl rfl ?_
            refine RL.nil (RC.back ?_)
            refine RC.done (rs := [.tmp 4]) (vs := [_]) rfl rfl ⟨rfl, trivial⟩ ?_
            -- end 7
            rw [fitsM_zero.2 ⟨g18, hpm, hft, cur, hplay⟩]
            exact ⟨rfl, S⟩
end Go.Proofs.Ytlhnnleaiinjaaa
set_option linter.unusedVariables false
set_option linter.unusedSimpArgs false
namespace Go.Proofs.Ytlhnnleaiinjaaa
open Go Go.XL
theorem order_fit {l : List En} (h : rightH l ∧ l.length ≤ 8) {r : List Int} (hf : fitsM l r = 0) (hne : ¬ r = []) : ∃ r', orderM l = (r', 0) ∧ fitsM l r' = 0 := by
  have h1 : ¬ firstM l l.length [] = [] := firstM_all hf hne (b := []) (s := r) rfl ((fitsM_zero.1 hf).2.1.1)
  rw [first_try h.1 (Beg.nil l)] at h1
  cases ht : tryM l l.length [] m0 with
  | none => rw [ht] at h1; exact absurd rfl h1
  | some r' => exact ⟨r', orderM_some h ht, (tryM_fits h.1 (Beg.nil l) ht).1⟩
theorem order_none {l : List En} (h : rightH l ∧ l.length ≤ 8) (hf : ∀ r, ¬ fitsM l r = 0) : orderM l = ([], 3) := by
  cases ht : tryM l l.length [] m0 with
  | none => exact orderM_none h ht
  | some r' => exact absurd (tryM_fits h.1 (Beg.nil l) ht).1 (hf r')
def al20 : List En := [⟨0, ⟨3, 6, 0, 0⟩, ⟨0, 1, 0⟩, 0, 9⟩, ⟨0, ⟨3, 2, 7, 0⟩, ⟨0, 0, 0⟩, 3, 5⟩]
theorem al_right : rightH al20 := by
  refine ⟨?_, by decide⟩
  unfold rightE
  decide
theorem al_fits : fitsM al20 [1, 0] = 0 := by
  refine fitsM_zero.2 ⟨al_right, ⟨rfl, by decide⟩, ?_, ?_⟩
  · unfold fitsT laterP; decide
  · exact ⟨⟨[], [], [7], []⟩, by rfl⟩
theorem al_order : ∃ r, orderM al20 = (r, 0) ∧ r = [1, 0] := by
  obtain ⟨r, h1, h2⟩ := order_fit ⟨al_right, by decide⟩ al_fits (by simp)
  refine ⟨r, h1, ?_⟩
  obtain ⟨_, hp, _, m, hm⟩ := fitsM_zero.1 h2
  obtain ⟨hr, hn⟩ := perm_once hp.1 hp.2
  have h2 := hp.1
  match r, h2 with
  | [x, y], _ =>
    have hx := hr x (by simp)
    have hy := hr y (by simp)
    have hxy : ¬ x = y := by rw [List.nodup_cons] at hn; simpa using hn.1
    have h2 : ((al20.length : Nat) : Int) = 2 := rfl
    rw [h2] at hx hy
    have : (x = 0 ∧ y = 1) ∨ (x = 1 ∧ y = 0) := by omega
    rcases this with ⟨rfl, rfl⟩ | ⟨rfl, rfl⟩
    · have : playM m0 ([0, 1].map (enAt al20)) = none := by rfl
      rw [this] at hm; cases hm
    · rfl
theorem c_alive20 (w : World) : FC Try.prog 9 [] w (Val (.bool true) w) := by
  obtain ⟨r, hr, hr2⟩ := al_order
  subst hr2
  refine FC.intro Try.func9 rfl Try.ntmps9 rfl ?_
  have S := Sub.refl w
  refine RC.seq ?_
  refine RC.region rfl ?_
  refine RL.ev (.assign rfl) rfl rfl ?_
  refine RL.nil (RC.back ?_)
  refine RC.seq ?_
  refine RC.region rfl ?_
  refine RL.ev (.as (v' := .agg #[.int .i64 3, .int .i64 6, .int .i64 0, .int .i64 0]) (.buildS ze40 pl40 rfl rfl) (by rfl)) rfl rfl ?_
  refine RL.ev (.as (v' := .agg #[.int .i64 0, .int .i64 1, .int .i64 0]) (.buildS ze43 pl43 rfl rfl) (by rfl)) rfl rfl ?_
  refine RL.ev (.as (v' := .agg #[.int .i64 0, .int .i64 3, .int .i64 6, .int .i64 0, .int .i64 0, .int .i64 0, .int .i64 1, .int .i64 0, .int .i64 0, .int .i64 9]) (.buildS ze48 pl48 rfl rfl) (by rfl)) rfl rfl ?_
  refine RL.ev (.as (v' := .agg #[.int .i64 3, .int .i64 2, .int .i64 7, .int .i64 0]) (.buildS ze40 pl40 rfl rfl) (by rfl)) rfl rfl ?_
  refine RL.ev (.as (v' := .agg #[.int .i64 0, .int .i64 3, .int .i64 2, .int .i64 7, .int .i64 0, .int .i64 0, .int .i64 0, .int .i64 0, .int .i64 3, .int .i64 5]) (.buildS ze48 pl48 rfl rfl) (by rfl)) rfl rfl ?_
  refine RL.buildSliceN (vs := [_, _]) sl22 _ ze48 rfl ⟨rfl, rfl, trivial⟩ rfl rfl rfl rfl rfl rfl (fun b_9 w_9 e_9 z_9 hb_9 s_9 => ?_)
  have ge_9 := S.le e_9
  have S := S.trans s_9
  refine RL.ev (.assign rfl) rfl rfl ?_
  refine RL.nil (RC.back ?_)
  refine RC.seq ?_
  refine RC.region rfl ?_
  refine RL.ev (.move rfl) rfl rfl ?_
  refine RL.call rfl ok7 (c_Order al20 (some ⟨b_9, 0, none⟩) 2 2 rfl (by decide) w_9 (Has.sl0 (rows := al20.map En.cells) hb_9 (by intro r hr; obtain ⟨x, _, rfl⟩ := List.mem_map.1 hr; rfl))) rfl rfl ?_
  rintro _ w1 ⟨s2, a12, c12, rfl, _, hs12⟩
  have S := S.trans s2
  have hb_9 := hb_9.sub s2
  rw [hr] at hs12
  obtain ⟨W9, S9, hs12⟩ : ∃ W, Sub W w1 ∧ Sl W a12 1 (([1, 0] : List Int).map fun x => [i6 x]) := ⟨_, Sub.refl _, hs12⟩
  rw [hr]
  refine RL.ev (.move rfl) rfl rfl ?_
  refine RL.ev (.extract rfl rfl) rfl rfl ?_
  refine RL.ev (.extract rfl rfl) rfl rfl ?_
  refine RL.ev (.assign rfl) rfl rfl ?_
  refine RL.ev (.assign rfl) rfl rfl ?_
  refine RL.nil (RC.back ?_)
  refine RC.seq ?_
  refine RC.region rfl ?_
  refine RL.ev (.move rfl) rfl rfl ?_
  refine RL.ev (.as (v' := .bool true) (.bin rfl rfl rfl) (congrArg Value.bool (decide_eq_true (rfl)))) rfl rfl ?_
  refine RL.ev (.move rfl) rfl rfl ?_
  refine RL.ev (.move rfl) rfl rfl ?_
  refine RL.ev (.len sl23 rfl) rfl rfl ?_
  refine RL.ev (.as (v' := .bool true) (.bin rfl rfl rfl) (congrArg Value.bool (decide_eq_true (rfl)))) rfl rfl ?_
  refine RL.ev (.pick_t rfl rfl) rfl rfl ?_
  refine RL.ev (.move rfl) rfl rfl ?_
  refine RL.ev (.move rfl) rfl rfl ?_
  refine RL.ev (.indexS sl23 rfl rfl (by decide) (hs12.is (i := 0) (by decide))) rfl rfl ?_
  refine RL.ev (.load1 sh3 rfl ((hs12.sub S9).one (enc := i6) (i := 0) (x := 1) rfl)) rfl rfl ?_
  refine RL.ev (.as (v' := .bool true) (.bin rfl rfl rfl) (congrArg Value.bool (decide_eq_true (rfl)))) rfl rfl ?_
  refine RL.ev (.pick_t rfl rfl) rfl rfl ?_
  refine RL.ev (.assign rfl) rfl rfl ?_
  refine RL.nil (RC.back ?_)
  refine RC.done (rs := [.tmp 0]) (vs := [_]) rfl rfl ⟨rfl, trivial⟩ ?_
  -- end 1
  exact ⟨rfl, S⟩
end Go.Proofs.Ytlhnnleaiinjaaa
set_option linter.unusedVariables false
set_option linter.unusedSimpArgs false
namespace Go.Proofs.Ytlhnnleaiinjaaa
open Go Go.XL
theorem nats_map (l : List En) : (natsI l.length).map (enAt l) = l := by
  apply List.ext_getElem?
  intro i
  rw [List.getElem?_map]
  by_cases hi : i < l.length
  · obtain ⟨x, hx⟩ := getSome (l := l) (i := i) hi
    rw [natsI_get hi, hx, Option.map_some, enAt_get hx]
  · rw [List.getElem?_eq_none (by rw [natsI_len]; omega), List.getElem?_eq_none (by omega)]; rfl
def ovE (v : Int) : En := ⟨0, ⟨3, 2, v, 0⟩, ⟨0, 0, 0⟩, 0, 9⟩
def ovF (v : Int) : En := ⟨0, ⟨3, 2, v, 0⟩, ⟨2, 0, 0⟩, 0, 9⟩
def szE (c : Int) : En := ⟨0, ⟨3, 6, 0, 0⟩, ⟨0, c, 0⟩, 10, 11⟩
def rowMo (r : List Int) : Mo := ⟨[], [], r, []⟩
theorem ov_ans (v : Int) {r : List Int} (h : r.length < 200) : ansM (rowMo r) (ovE v) = (rowMo (r ++ [v]), true) ∧ ansM (rowMo r) (ovF v) = (rowMo r, true) := by
  have hn : ¬ 200 ≤ r.length := by omega
  constructor
  · have hne : ¬ (ovE v).res = fullR := by show ¬ (⟨0, 0, 0⟩ : ResT) = ⟨2, 0, 0⟩; decide
    have hd : doM (rowMo r) (ovE v).op = (rowMo (r ++ [v]), ⟨0, 0, 0⟩) := by simp [doM, rowM, rowMo, ovE, hn]
    unfold ansM
    rw [if_neg hne, hd]
    exact congrArg _ (decide_eq_true rfl)
  · unfold ansM; rw [if_pos (show (ovF v).res = fullR from rfl)]
theorem ov_play (v : Int) : ∀ (xs : List En) (r : List Int), (∀ x ∈ xs, x = ovE v ∨ x = ovF v) → r.length + xs.length ≤ 200 → playM (rowMo r) xs = some (rowMo (r ++ List.replicate (xs.count (ovE v)) v))
  | [], r, _, _ => by simp [playM]
  | x :: xs, r, h, hl => by
    simp only [List.length_cons] at hl
    obtain ⟨a1, a2⟩ := ov_ans v (r := r) (by omega)
    have hne : ¬ ovF v = ovE v := fun e => by have : (ovF v).res = (ovE v).res := (by rw [e]); exact absurd this (by show ¬ (⟨2, 0, 0⟩ : ResT) = ⟨0, 0, 0⟩; decide)
    rcases h x (by simp) with rfl | rfl
    · have ih := ov_play v xs (r ++ [v]) (fun x hx => h x (by simp [hx])) (by rw [List.length_append, List.length_singleton]; omega)
      simp only [playM, a1, if_true, ih, List.count_cons_self]
      rw [List.append_assoc, List.replicate_succ]; rfl
    · have ih := ov_play v xs r (fun x hx => h x (by simp [hx])) (by omega)
      simp only [playM, a2, if_true, ih]
      rw [List.count_cons_of_ne hne]
/-- no one need come ahead: the first order is that of places -/
theorem try_id {l : List En} (hl : ∀ i j : Nat, i < l.length → j < l.length → ¬ laterP l i j) : ∀ (k j : Nat) (m : Mo), j + k = l.length → (∃ m', playM m (l.drop j) = some m') → tryM l k (natsI j) m = some (natsI l.length)
  | 0, j, m, h, _ => by rw [tryM]; rw [show j = l.length by omega]
  | k + 1, j, m, h, hp => by
    obtain ⟨x, hx⟩ := getSome (l := l) (i := j) (by omega)
    obtain ⟨m', hp⟩ := hp
    have hd : l.drop j = x :: l.drop (j + 1) := by rw [List.drop_eq_getElem_cons (lt_of_get hx), getElem_of hx]
    rw [hd] at hp
    simp only [playM] at hp
    have ha : (ansM m x).2 = true := by
      cases q : (ansM m x).2 with
      | true => rfl
      | false => rw [q] at hp; simp at hp
    rw [ha, if_pos rfl] at hp
    have ih := try_id hl k (j + 1) (ansM m x).1 (by omega) ⟨m', hp⟩
    rw [tryM]
    refine find_range (i := j) (by omega) (fun i hi => ?_) ?_
    · unfold tryS
      rw [pB_yes (.inl (mem_natsI.2 (by omega)))]; rfl
    · unfold tryS
      rw [pB_no (fun e => e.elim (fun e => by have := mem_natsI.1 e; omega) (fun ⟨q, hq, _, _, e⟩ => hl j q (by omega) hq e)), if_neg (show ¬ (false = true) by simp), enAt_get hx, ha, if_pos rfl, ← natsI_succ]
      exact ih
def allOv (v : Int) (l : List En) : Prop := ∀ x ∈ l, x = ovE v ∨ x = ovF v
theorem ov_later {v : Int} {l : List En} (h : allOv v l) {i j : Int} (hi : 0 ≤ i ∧ i < l.length) (hj : 0 ≤ j ∧ j < l.length) : ¬ laterP l i j := by
  obtain ⟨a, rfl⟩ := Int.eq_ofNat_of_zero_le hi.1
  obtain ⟨b, rfl⟩ := Int.eq_ofNat_of_zero_le hj.1
  unfold laterP
  have h1 : (enAt l a).fr = 0 := by rcases h _ (enAt_mem (l := l) (i := a) (by omega)) with e | e <;> rw [e] <;> rfl
  have h2 : (enAt l b).to = 9 := by rcases h _ (enAt_mem (l := l) (i := b) (by omega)) with e | e <;> rw [e] <;> rfl
  rw [h1, h2]; decide
theorem ov_right {v : Int} (hv : -1073741824 ≤ v ∧ v ≤ 1073741824) {l : List En} (h : allOv v l) (hl : l.length ≤ 200) : rightH l := by
  refine ⟨fun x hx => ?_, hl⟩
  have hok : okP ⟨3, 2, v, 0⟩ := by simp [okP, kindP, hasAP, hasBP]; omega
  rcases h x hx with rfl | rfl <;> exact ⟨hok, by show (0 : Int) ≤ 0; decide, by show (0 : Int) ≤ 9; decide, by show (9 : Int) ≤ 1099511627776; decide⟩
theorem ov_fits {v : Int} (hv : -1073741824 ≤ v ∧ v ≤ 1073741824) {l : List En} (h : allOv v l) (hl : l.length ≤ 200) {o : List Int} (ho : permH l o) : fitsM l o = 0 := by
  obtain ⟨hr, hn⟩ := perm_once ho.1 ho.2
  have hpl := ov_play v (o.map (enAt l)) [] (fun x hx => by
    obtain ⟨i, hi, rfl⟩ := List.mem_map.1 hx
    have := hr i hi
    obtain ⟨a, rfl⟩ := Int.eq_ofNat_of_zero_le this.1
    exact h _ (enAt_mem (by omega))) (by rw [List.length_map, ho.1]; simp; omega)
  refine fitsM_zero.2 ⟨ov_right hv h hl, ho, ?_, _, hpl⟩
  unfold fitsT
  rw [List.pairwise_iff_getElem]
  exact fun a b ha hb _ => ov_later h (hr _ (List.getElem_mem ha)) (hr _ (List.getElem_mem hb))
theorem ov_order {v : Int} (hv : -1073741824 ≤ v ∧ v ≤ 1073741824) {l : List En} (h : allOv v l) (hl : l.length ≤ 8) : orderM l = (natsI l.length, 0) := by
  refine orderM_some ⟨ov_right hv h (by omega), hl⟩ (try_id (fun i j hi hj => ov_later h (by omega) (by omega)) l.length 0 m0 (by omega) ?_)
  exact ⟨_, ov_play v l [] h (by simp; omega)⟩
theorem enAt_app {l : List En} {y : En} {i : Int} (hi : 0 ≤ i ∧ i < l.length) : enAt (l ++ [y]) i = enAt l i := by
  obtain ⟨a, rfl⟩ := Int.eq_ofNat_of_zero_le hi.1
  obtain ⟨x, hx⟩ := getSome (l := l) (i := a) (by omega)
  rw [enAt_get hx, enAt_get (by rw [List.getElem?_append_left (by omega)]; exact hx)]
theorem enAt_last (l : List En) (y : En) : enAt (l ++ [y]) (l.length : Int) = y := enAt_get (by simp)
theorem sz_ans (r : List Int) (q : Int) : (ansM (rowMo r) (szE q)).2 = decide ((r.length : Int) = q) := by
  have hne : ¬ (szE q).res = fullR := fun e => by have : (szE q).res.e = fullR.e := (by rw [e]); exact absurd this (by show ¬ (0 : Int) = 2; decide)
  have hd : doM (rowMo r) (szE q).op = (rowMo r, ⟨0, r.length, 0⟩) := by simp [doM, rowM, rowMo, szE]
  unfold ansM
  rw [if_neg hne, hd]
  exact decide_eq_decide.2 ⟨fun e => by have := congrArg ResT.a e; exact this, fun e => by show (⟨0, (r.length : Int), 0⟩ : ResT) = ⟨0, q, 0⟩; rw [e]⟩
theorem sz_right {v : Int} (hv : -1073741824 ≤ v ∧ v ≤ 1073741824) {l : List En} (h : allOv v l) (hl : l.length ≤ 199) (q : Int) : rightH (l ++ [szE q]) := by
  refine ⟨fun x hx => ?_, by rw [List.length_append, List.length_singleton]; omega⟩
  rcases List.mem_append.1 hx with hx | hx
  · exact (ov_right hv h (by omega)).1 x hx
  · rw [List.mem_singleton] at hx; subst hx
    exact ⟨by show okP ⟨3, 6, 0, 0⟩; decide, by show (0 : Int) ≤ 10; decide, by show (10 : Int) ≤ 11; decide, by show (11 : Int) ≤ 1099511627776; decide⟩
theorem sz_yes {v : Int} (hv : -1073741824 ≤ v ∧ v ≤ 1073741824) {l : List En} (h : allOv v l) (hl : l.length ≤ 7) {q : Int} (hq : (l.count (ovE v) : Int) = q) : (orderM (l ++ [szE q])).2 = 0 := by
  have hlen : (l ++ [szE q]).length = l.length + 1 := by simp
  have hr := sz_right hv h (by omega) q
  have hm : (natsI (l ++ [szE q]).length).map (enAt (l ++ [szE q])) = l ++ [szE q] := nats_map _
  have hf : fitsM (l ++ [szE q]) (natsI (l ++ [szE q]).length) = 0 := by
    refine fitsM_zero.2 ⟨hr, ⟨natsI_len _, fun i hi => mem_natsI.2 (by omega)⟩, ?_, ?_⟩
    · unfold fitsT
      rw [List.pairwise_iff_getElem]
      intro a b ha hb hab
      rw [natsI_len] at ha hb
      rw [getElem_of (natsI_get ha) (by rw [natsI_len]; exact ha), getElem_of (natsI_get hb) (by rw [natsI_len]; exact hb)]
      rw [hlen] at ha hb
      have hfr : (enAt (l ++ [szE q]) (a : Int)).fr = 0 := by
        rw [enAt_app (by omega)]
        rcases h _ (enAt_mem (l := l) (i := a) (by omega)) with e | e <;> rw [e] <;> rfl
      unfold laterP
      rw [hfr]
      have h0 := (hr.1 _ (enAt_mem (l := l ++ [szE q]) (i := b) (by omega)))
      have := h0.2.1; have := h0.2.2.1; omega
    · rw [hm, playM_app, show m0 = rowMo [] from rfl, ov_play v l [] h (by simp; omega)]
      refine ⟨(ansM (rowMo ([] ++ List.replicate (l.count (ovE v)) v)) (szE q)).1, ?_⟩
      simp only [Option.bind_some, playM]
      rw [if_pos (by rw [sz_ans]; exact decide_eq_true (by simpa using hq))]
  obtain ⟨r, h1, _⟩ := order_fit ⟨hr, by omega⟩ hf (fun e => by have := natsI_len (l ++ [szE q]).length; rw [e, hlen] at this; simp at this)
  rw [h1]
theorem sz_no {v : Int} (hv : -1073741824 ≤ v ∧ v ≤ 1073741824) {l : List En} (h : allOv v l) (hl : l.length ≤ 7) {q : Int} (hq : ¬ (l.count (ovE v) : Int) = q) : (orderM (l ++ [szE q])).2 = 3 := by
  have hlen : (l ++ [szE q]).length = l.length + 1 := by simp
  have hr := sz_right hv h (by omega) q
  rw [order_none ⟨hr, by omega⟩ fun r hf => ?_]
  obtain ⟨_, hp, hT, m, hm⟩ := fitsM_zero.1 hf
  obtain ⟨hrng, hn⟩ := perm_once hp.1 hp.2
  rw [hlen] at hrng
  obtain ⟨r1, r2, rfl⟩ := List.append_of_mem (hp.2 l.length (by omega))
  have h2 : r2 = [] := by
    cases r2 with
    | nil => rfl
    | cons b r2 =>
      have hb := hrng b (by simp)
      have hne : ¬ (l.length : Int) = b := by
        have := (List.pairwise_append.1 hn).2.1
        rw [List.pairwise_cons] at this
        exact this.1 b (by simp)
      have hl1 := (List.pairwise_append.1 hT).2.1
      rw [List.pairwise_cons] at hl1
      have hl1 := hl1.1 b (by simp)
      obtain ⟨c, rfl⟩ := Int.eq_ofNat_of_zero_le hb.1
      have hto : (enAt (l ++ [szE q]) (c : Int)).to = 9 := by
        rw [enAt_app (by omega)]
        rcases h _ (enAt_mem (l := l) (i := c) (by omega)) with e | e <;> rw [e] <;> rfl
      unfold laterP at hl1
      rw [enAt_last, hto] at hl1
      exact absurd (show (9 : Int) < (szE q).fr by show (9 : Int) < 10; decide) hl1
  subst h2
  have hn1 := (List.pairwise_append.1 hn)
  have hr1 : ∀ x ∈ r1, 0 ≤ x ∧ x < l.length := fun x hx => by
    have h1 := hrng x (by simp [hx])
    have h2 := hn1.2.2 x hx (l.length : Int) (by simp)
    omega
  have hlr : r1.length = l.length := by have := hp.1; simp at this; omega
  have hperm : r1.Perm (natsI l.length) := (List.perm_ext_iff_of_nodup hn1.1 (natsI_nd _)).2 fun x => ⟨fun hx => mem_natsI.2 (hr1 x hx), fun hx => by
    have hx := mem_natsI.1 hx
    have := perm_of hlr hr1 hn1.1 x.toNat (by omega)
    rwa [Int.toNat_of_nonneg hx.1] at this⟩
  have hmap : r1.map (enAt (l ++ [szE q])) = r1.map (enAt l) := List.map_congr_left fun x hx => enAt_app (hr1 x hx)
  have hcount : (r1.map (enAt l)).count (ovE v) = l.count (ovE v) := by rw [(hperm.map (enAt l)).count_eq, nats_map]
  have hov : ∀ x ∈ r1.map (enAt l), x = ovE v ∨ x = ovF v := fun x hx => by
    obtain ⟨i, hi, rfl⟩ := List.mem_map.1 hx
    have := hr1 i hi
    obtain ⟨a, rfl⟩ := Int.eq_ofNat_of_zero_le this.1
    exact h _ (enAt_mem (by omega))
  rw [List.map_append, playM_app, hmap, show m0 = rowMo [] from rfl, ov_play v _ [] hov (by rw [List.length_map, hlr]; simp; omega), hcount] at hm
  simp only [Option.bind_some, List.map_cons, List.map_nil, playM, enAt_last, sz_ans] at hm
  rw [if_neg (by rw [decide_eq_false (by simpa using hq)]; simp)] at hm
  cases hm
end Go.Proofs.Ytlhnnleaiinjaaa
set_option linter.unusedVariables false
set_option linter.unusedSimpArgs false
namespace Go.Proofs.Ytlhnnleaiinjaaa
open Go Go.XL
def En.ok (x : En) : Prop := I64 x.proc ∧ (I64 x.op.box ∧ I64 x.op.kind ∧ I64 x.op.a ∧ I64 x.op.b) ∧ (I64 x.res.e ∧ I64 x.res.a ∧ I64 x.res.b) ∧ I64 x.fr ∧ I64 x.to
end Go.Proofs.Ytlhnnleaiinjaaa
set_option linter.unusedVariables false
set_option linter.unusedSimpArgs false
namespace Go.Proofs.Ytlhnnleaiinjaaa
open Go Go.XL
theorem part_splice {rows : List (List Value)} {sz : Nat} (hl : ∀ r ∈ rows, r.length = sz) {extra vs r : List Value} {i j : Nat} (hr : rows[i]? = some r) (hj : j + vs.length ≤ sz) : splice (rows.flatten ++ extra) (i * sz + j) vs = splice (rows.flatten ++ extra) (i * sz) (splice r j vs) := by
  have hrl := hl r (List.mem_of_getElem? hr)
  have hil := lt_of_get hr
  have hle : (i + 1) * sz ≤ rows.length * sz := Nat.mul_le_mul_right _ hil
  rw [Nat.succ_mul] at hle
  apply List.ext_getElem?
  intro k
  rw [splice_get, splice_get, splice_length, hrl]
  by_cases hk : k < (rows.flatten ++ extra).length
  · rw [if_pos hk, if_pos hk]
    by_cases h1 : i * sz ≤ k ∧ k < i * sz + sz
    · have e2 : (splice r j vs)[k - i * sz]? = if j ≤ k - i * sz ∧ k - i * sz < j + vs.length then vs[k - i * sz - j]? else r[k - i * sz]? := by rw [splice_get, hrl, if_pos (by omega)]
      rw [if_pos h1, e2]
      by_cases h2 : i * sz + j ≤ k ∧ k < i * sz + j + vs.length
      · rw [if_pos h2, if_pos (by omega)]; congr 1; omega
      · rw [if_neg h2, if_neg (by omega), List.getElem?_append_left (by rw [flat_len rows hl]; omega)]
        have := flat_get rows hl i (k - i * sz) r hr (by omega)
        rw [← this]; congr 1; omega
    · rw [if_neg h1, if_neg (by omega)]
  · rw [if_neg hk, if_neg hk]
theorem _root_.Go.XL.Has.part_set {w : World} {b : Nat} {e : TypeId} {sz : Nat} {rows : List (List Value)} {extra vs r : List Value} {i j : Nat} (h : Has w b (splice (rows.flatten ++ extra) (i * sz + j) vs) e) (hl : ∀ r ∈ rows, r.length = sz) (hr : rows[i]? = some r) (hj : j + vs.length ≤ sz) : Has w b ((rows.set i (splice r j vs)).flatten ++ extra) e := by
  rw [part_splice hl hr hj] at h
  exact Has.row_set h hl (lt_of_get hr) (by rw [splice_length]; exact hl r (List.mem_of_getElem? hr))
theorem en_rows (l : List En) : ∀ r ∈ l.map En.cells, r.length = 10 := fun r hr => by obtain ⟨x, _, rfl⟩ := List.mem_map.1 hr; rfl
def revT (n i : Nat) : List Int := (List.range i).map fun (j : Nat) => (n : Int) - 1 - j
theorem revT_succ (n i : Nat) : revT n (i + 1) = revT n i ++ [(n : Int) - 1 - i] := by unfold revT; rw [List.range_succ, List.map_append]; rfl
theorem revT_len (n i : Nat) : (revT n i).length = i := by simp [revT]
theorem revT_mem {n : Nat} {i : Nat} (h : i < n) : (i : Int) ∈ revT n n := by
  unfold revT
  exact List.mem_map.2 ⟨n - 1 - i, List.mem_range.2 (by omega), by omega⟩
theorem rep_ov (v : Int) (n : Nat) : allOv v (List.replicate n (ovE v)) := fun x hx => .inl (List.mem_replicate.1 hx).2
theorem set_ov {v : Int} {l : List En} (h : allOv v l) (k : Nat) : allOv v (l.set k (ovF v)) := fun x hx => (List.mem_or_eq_of_mem_set hx).elim (h x) .inr
theorem ov_ne (v : Int) : ¬ ovF v = ovE v := fun e => by have : (ovF v).res = (ovE v).res := (by rw [e]); exact absurd this (by show ¬ (⟨2, 0, 0⟩ : ResT) = ⟨0, 0, 0⟩; decide)
theorem set_count (v : Int) {n k : Nat} (h : k < n) : ((List.replicate n (ovE v)).set k (ovF v)).count (ovE v) = n - 1 := by
  have e : List.replicate n (ovE v) = List.replicate k (ovE v) ++ ovE v :: List.replicate (n - k - 1) (ovE v) := by
    rw [← List.replicate_succ, List.replicate_append_replicate]; congr 1; omega
  rw [e, List.set_append_right _ _ (by simp), List.length_replicate, Nat.sub_self, List.set_cons_zero, List.count_append, List.count_cons_of_ne (ov_ne v), List.count_replicate_self, List.count_replicate_self]
  omega
set_option maxHeartbeats 2000000 in
theorem law_HistoryOverlaps (n0 : Int) (wn : (Lit.int .i64 n0).wf = true) (a0 : Int) (wa : (Lit.int .i64 a0).wf = true) (v0 : Int) (wv : (Lit.int .i64 v0).wf = true) (w : World) :
    FC Try.prog 6 [.int .i64 n0, .int .i64 a0, .int .i64 v0] w (Val (.bool true) w) := by
  have hn0 := wfI wn
  have ha0 := wfI wa
  have hv0 := wfI wv
  have nm := norm_mod n0 6 (by decide)
  obtain ⟨n, hn⟩ : ∃ n : Nat, (n : Int) = 1 + n0 % 6 := ⟨(1 + n0 % 6).toNat, by omega⟩
  have hn6 : 1 ≤ n ∧ n ≤ 6 := by omega
  have nk := norm_mod a0 (n : Int) (by omega)
  obtain ⟨k, hk⟩ := Int.eq_ofNat_of_zero_le (Int.emod_nonneg a0 (show (n : Int) ≠ 0 by omega))
  have hkn : k < n := by have := Int.emod_lt_of_pos a0 (show 0 < (n : Int) by omega); omega
  rw [hk] at nk
  obtain ⟨v, hv⟩ : ∃ v, v = v0.tmod 1000 := ⟨_, rfl⟩
  have hvb : -1073741824 ≤ v ∧ v ≤ 1073741824 := by
    have h1 := Int.tmod_lt_of_pos v0 (show (0 : Int) < 1000 by decide)
    have h2 := Int.lt_tmod_of_pos v0 (show (0 : Int) < 1000 by decide)
    omega
  refine FC.intro Try.func6 rfl Try.ntmps6 rfl ?_
  have S := Sub.refl w
  refine RC.seq ?_
  refine RC.region rfl ?_
  refine RL.ev (.assign rfl) rfl rfl ?_
  refine RL.nil (RC.back ?_)
  refine RC.seq ?_
  refine RC.region rfl ?_
  refine RL.ev (.move rfl) rfl rfl ?_
  refine RL.ev (.rem rfl rfl (by decide)) rfl rfl ?_
  refine RL.ev (.as (.bin rfl rfl rfl) (wi64 (y := n0.tmod 6 + 6) (by rfl) (by omega))) rfl rfl ?_
  refine RL.ev (.as (v' := .int .i64 (n0 % 6)) (.rem rfl rfl (by decide)) (by rw [nm.2.2])) rfl rfl ?_
  refine RL.ev (.as (.bin rfl rfl rfl) (wi64 (y := (n : Int)) (by omega) (by omega))) rfl rfl ?_
  refine RL.ev (.assign rfl) rfl rfl ?_
  refine RL.nil (RC.back ?_)
  refine RC.seq ?_
  refine RC.region rfl ?_
  refine RL.ev (.move rfl) rfl rfl ?_
  refine RL.ev (.move rfl) rfl rfl ?_
  refine RL.ev (.rem rfl rfl (by omega)) rfl rfl ?_
  refine RL.ev (.move rfl) rfl rfl ?_
  refine RL.ev (.as (.bin rfl rfl rfl) (wi64 (y := a0.tmod (n : Int) + (n : Int)) (by rfl) (by omega))) rfl rfl ?_
  refine RL.ev (.move rfl) rfl rfl ?_
  refine RL.ev (.as (v' := .int .i64 (k : Int)) (.rem rfl rfl (by omega)) (by rw [nk.2.2])) rfl rfl ?_
  refine RL.ev (.assign rfl) rfl rfl ?_
  refine RL.nil (RC.back ?_)
  refine RC.seq ?_
  refine RC.region rfl ?_
  refine RL.ev (.move rfl) rfl rfl ?_
  refine RL.ev (.as (v' := .int .i64 v) (.rem rfl rfl (by decide)) (by rw [hv])) rfl rfl ?_
  refine RL.ev (.assign rfl) rfl rfl ?_
  refine RL.nil (RC.back ?_)
  refine RC.seq ?_
  refine RC.region rfl ?_
  refine RL.ev (.assign rfl) rfl rfl ?_
  refine RL.nil (RC.back ?_)
  refine RC.seq ?_
  refine RC.region rfl ?_
  refine RL.ev (.assign rfl) rfl rfl ?_
  refine RL.nil (RC.back ?_)
  refine RC.seq ?_
  refine RC.seq ?_
  refine RC.region rfl ?_
  refine RL.ev (.move rfl) rfl rfl ?_
  refine RL.ev (.move rfl) rfl rfl ?_
  refine RL.nil (RC.back ?_)
  refine RC.block ?_
  refine RC.loop (α := Nat × (List En × Option Addr × Nat) × (List Int × Option Addr × Nat)) (fun x => [(0, .int .i64 (n : Int)), (1, .int .i64 (k : Int)), (2, .int .i64 v), (6, .bool false), (7, .slice x.2.1.2.1 (x.2.1.1.map En.cells).length x.2.1.2.2), (8, .slice x.2.2.2.1 (x.2.2.1.map fun x => [i6 x]).length x.2.2.2.2), (30, .int .i64 (n : Int)), (31, .int .i64 (x.1 : Int))]) (fun x w1 => (x.1 ≤ n ∧ x.2.1.1 = List.replicate x.1 (ovE v) ∧ x.2.2.1 = revT n x.1) ∧ Ows w.heap.size w1 48 10 (.slice x.2.1.2.1 (x.2.1.1.map En.cells).length x.2.1.2.2) (x.2.1.1.map En.cells) ∧ Ows w.heap.size w1 3 1 (.slice x.2.2.2.1 (x.2.2.1.map fun x => [i6 x]).length x.2.2.2.2) (x.2.2.1.map fun x => [i6 x]) ∧ (∀ k, ob (.slice x.2.1.2.1 (x.2.1.1.map En.cells).length x.2.1.2.2) = some k → ob (.slice x.2.2.2.1 (x.2.2.1.map fun x => [i6 x]).length x.2.2.2.2) = some k → False) ∧ Sub w w1) (fun x => n - x.1) (0, ([], none, 0), ([], none, 0)) (keep_of (by repeat (first | exact trivial | refine And.intro rfl ?_))) (⟨⟨Nat.zero_le _, rfl, rfl⟩, Ows.nil _ _ _ _, Ows.nil _ _ _ _, fun k hk => obNil hk, S⟩) (fun x w1 hJ => ?_)
  obtain ⟨i, ⟨l, ao, co⟩, ⟨o, bo, cp⟩⟩ := x; obtain ⟨⟨hi, hl, ho⟩, o7, o8, d78, S⟩ := hJ; simp only [] at hi hl ho o7 o8 d78; have szB := S.size; have hll : l.length = i := (by rw [hl, List.length_replicate]); have hol : o.length = i := (by rw [ho, revT_len])
  refine RC.seq ?_
  refine RC.region rfl ?_
  refine RL.ev (.bin rfl rfl rfl) rfl rfl ?_
  refine RL.nil (RC.back ?_)
  refine RC.seq ?_
  refine RC.cond_dec rfl (fun h2 => ?_) (fun h2 => ?_)
  ·
    refine RC.skip (RC.back ?_)
    refine RC.seq ?_
    refine RC.block ?_
    refine RC.seq ?_
    refine RC.region rfl ?_
    refine RL.ev (.move rfl) rfl rfl ?_
    refine RL.ev (.assign rfl) rfl rfl ?_
    refine RL.nil (RC.back ?_)
    refine RC.seq ?_
    refine RC.region rfl ?_
    refine RL.ev (.move rfl) rfl rfl ?_
    refine RL.ev (.move rfl) rfl rfl ?_
    refine RL.ev (.as (v' := .agg #[.int .i64 3, .int .i64 2, .int .i64 v, .int .i64 0]) (.buildS ze40 pl40 rfl rfl) (by rfl)) rfl rfl ?_
    refine RL.ev (.as (v' := .agg (ovE v).cells.toArray) (.buildS ze48 pl48 rfl rfl) (by rfl)) rfl rfl ?_
    refine RL.buildSlice1 sl22 _ ze48 rfl rfl rfl rfl rfl rfl rfl (fun b_38 w_38 e_38 z_38 hb_38 s_38 => ?_)
    have ge_38 := S.le e_38
    have d_o7_b_38 := o7.neNew e_38
    have d_o8_b_38 := o8.neNew e_38
    have S := S.trans s_38
    have o7 := o7.sub s_38
    have o8 := o8.sub s_38
    have szB := Nat.le_trans szB s_38.size
    have sz_39 := S.size
    have ltb_38_39 := hb_38.lt
    refine RL.append2 (base := w.heap.size) (rows := l.map En.cells) (news := [_]) sl22 ze48 rfl rfl rfl rfl (.inl o7) (Has.slOne hb_38) rfl (by intro r hr; rw [List.mem_singleton] at hr; subst hr; rfl) rfl (by (try simp only [List.length_map, List.length_nil, List.length_append, List.length_cons]); omega) (by (try simp only [List.length_map, List.length_nil, List.length_append, List.length_cons]); omega) (by omega) rfl rfl (fun v_39 w_39 hc_39 ho_39 ag_39 ob_39 => ?_)
    have o39 := ho_39 (.inl (by simp))
    rw [show _ ++ [_] = ((l ++ [ovE v]).map En.cells) from by rw [List.map_append]; rfl] at o39
    have dd_o39_o8 := obDD ob_39 d78 (fun k hk => (o8.ge k hk).2)
    have S := S.agrN ag_39 (fun k e => Nat.le_trans (by omega) e.2)
    have o8 := o8.step ag_39 (fun k hk e => d78 k e.1 hk)
    have szB := Nat.le_trans szB ag_39.size
    obtain ⟨a_39, c_39, rfl, k_39⟩ := o39.form
    refine RL.ev (.assign rfl) rfl rfl ?_
    refine RL.nil (RC.back ?_)
    refine RC.region rfl ?_
    refine RL.ev (.move rfl) rfl rfl ?_
    refine RL.ev (.move rfl) rfl rfl ?_
    refine RL.ev (.as (.bin rfl rfl rfl) (wi64 (y := (n : Int) - 1) (by omega) (by omega))) rfl rfl ?_
    refine RL.ev (.move rfl) rfl rfl ?_
    refine RL.ev (.as (.bin rfl rfl rfl) (wi64 (y := (n : Int) - 1 - (i : Int)) (by omega) (by omega))) rfl rfl ?_
    refine RL.buildSlice1 sl23 _ ze3 rfl rfl rfl rfl rfl rfl rfl (fun b_45 w_45 e_45 z_45 hb_45 s_45 => ?_)
    have ge_45 := S.le e_45
    have d_o8_b_45 := o8.neNew e_45
    have d_o39_b_45 := o39.neNew e_45
    have S := S.trans s_45
    have o8 := o8.sub s_45
    have szB := Nat.le_trans szB s_45.size
    have o39 := o39.sub s_45
    have sz_46 := S.size
    have ltb_45_46 := hb_45.lt
    refine RL.append2 (base := w.heap.size) (rows := o.map fun x => [i6 x]) (news := [_]) sl23 ze3 rfl rfl rfl rfl (.inl o8) (Has.slOne hb_45) rfl (by intro r hr; rw [List.mem_singleton] at hr; subst hr; rfl) rfl (by (try simp only [List.length_map, List.length_nil, List.length_append, List.length_cons]); omega) (by (try simp only [List.length_map, List.length_nil, List.length_append, List.length_cons]); omega) (by omega) rfl rfl (fun v_46 w_46 hc_46 ho_46 ag_46 ob_46 => ?_)
    have o46 := ho_46 (.inl (by simp))
    rw [show _ ++ [_] = ((o ++ [(n : Int) - 1 - (i : Int)]).map fun x => [i6 x]) from by rw [List.map_append]; rfl] at o46
    have dd_o46_o39 := obDD ob_46 (fun k h1 h2 => dd_o39_o8 k h2 h1) (fun k hk => (o39.ge k hk).2)
    have S := S.agrN ag_46 (fun k e => Nat.le_trans (by omega) e.2)
    have szB := Nat.le_trans szB ag_46.size
    have o39 := o39.step ag_46 (fun k hk e => (fun k h1 h2 => dd_o39_o8 k h2 h1) k e.1 hk)
    obtain ⟨a_46, c_46, rfl, k_46⟩ := o46.form
    refine RL.ev (.assign rfl) rfl rfl ?_
    refine RL.nil (RC.back ?_)
    refine RC.region rfl ?_
    refine RL.ev (.as (.bin rfl rfl rfl) (wi64 (y := ((i + 1 : Nat) : Int)) (by omega) (by omega))) rfl rfl ?_
    refine RL.ev (.move rfl) rfl rfl ?_
    exact RL.nil (fun a ka => ⟨(i + 1, (l ++ [ovE v], a_39, c_39), (o ++ [(n : Int) - 1 - (i : Int)], a_46, c_46)), ⟨⟨by omega, by rw [hl, List.replicate_succ'], by rw [ho, revT_succ]⟩, o39, o46, fun k h1 h2 => dd_o46_o39 k h2 h1, S⟩, by omega, ka.keep (keep_of (by repeat (first | exact trivial | refine And.intro rfl ?_)))⟩)
  ·
    obtain rfl : n = i := (by omega)
    have hov : allOv v l := (hl ▸ rep_ov v n)
    have hpm : permH l o := ⟨by omega, fun j hj => by rw [ho]; exact revT_mem (by omega)⟩
    have k7 := o7.form
    have k8 : o.length ≤ cp := (by obtain ⟨_, _, e, hh⟩ := o8.form; cases e; rw [List.length_map] at hh; exact hh)
    refine RC.exit rfl (RC.back ?_)
    refine RC.seq ?_
    refine RC.seq ?_
    refine RC.region rfl ?_
    refine RL.ev (.move rfl) rfl rfl ?_
    refine RL.ev (.move rfl) rfl rfl ?_
    refine RL.call rfl ok14 (FC.asV (v' := .int .i64 0) (c_Fits l ao co _ (List.length_map _) (by omega) o bo cp _ (List.length_map _) k8 (by omega) w1 o7.sl.1 o8.sl.1) (congrArg (Value.int .i64) (ov_fits hvb hov (by omega) hpm))) rfl rfl ?_
    rintro _ w3 ⟨rfl, s4⟩
    have S := S.trans s4
    have o7 := o7.sub s4
    have o8 := o8.sub s4
    have szB := Nat.le_trans szB s4.size
    refine RL.ev (.as (v' := .bool false) (.bin rfl rfl rfl) (congrArg Value.bool (decide_eq_false (fun h => h rfl)))) rfl rfl ?_
    refine RL.ev (.move rfl) rfl rfl ?_
    refine RL.call rfl ok9 (c_alive20 w3) rfl rfl ?_
    rintro _ w5 ⟨rfl, s6⟩
    have S := S.trans s6
    have o7 := o7.sub s6
    have o8 := o8.sub s6
    have szB := Nat.le_trans szB s6.size
    refine RL.ev (.not rfl) rfl rfl ?_
    refine RL.ev (.pick_f rfl rfl) rfl rfl ?_
    skip
    refine RL.nil (RC.back ?_)
    refine RC.cond_f rfl ?_
    refine RC.skip (RC.back ?_)
    refine RC.seq ?_
    refine RC.region rfl ?_
    refine RL.ev (.move rfl) rfl rfl ?_
    refine RL.ev (.move rfl) rfl rfl ?_
    obtain ⟨b_X, cap_X, ex_X, f_X, g_X, k_X, m_X, hb_X, l_X⟩ := o7.has (by rw [List.length_map]; omega)
    simp only [Value.slice.injEq] at f_X
    obtain ⟨rfl, hlen_X, rfl⟩ := f_X
    have ge_X : w.heap.size ≤ b_X := by omega
    refine RL.ev (.as (v' := .agg fullR.cells.toArray) (.buildS ze43 pl43 rfl rfl) (by rfl)) rfl rfl ?_
    refine RL.ev (.indexO sl22 rfl rfl (by simp only [List.length_map]; omega)) rfl rfl ?_
    refine RL.ev (.field0 fo48_2 rfl) rfl rfl ?_
    refine RL.store sh43 rfl rfl rfl hb_X (by rw [List.length_append, flat_len (sz := 10) _ (en_rows _), List.length_map]; show _ + 3 ≤ _; omega) (by rfl) rfl (fun w7 z7 hb_X a7 => ?_)
    have S := S.upd a7 ge_X
    have o8 := o8.updD a7 (fun k hk (e : k = b_X) => d78 k (by rw [e]; rfl) hk)
    have szB := Nat.le_trans szB a7.size
    have hxk : l[k]? = some (ovE v) := (by rw [hl, List.getElem?_replicate, if_pos (by omega)])
    have hb_X : Has w7 b_X (splice ((l.map En.cells).flatten ++ ex_X) (k * 10 + 5) fullR.cells) 48 := (by have q := hb_X; rw [Nat.zero_add] at q; exact q)
    have hb_X : Has w7 b_X (((l.map En.cells).set k (ovF v).cells).flatten ++ ex_X) 48 := Has.part_set hb_X (en_rows l) (r := (ovE v).cells) (by rw [List.getElem?_map, hxk]; rfl) (by decide)
    obtain ⟨L1, hL1⟩ : ∃ L, L = l.set k (ovF v) := ⟨_, rfl⟩
    have hL1l : L1.length = l.length := (by rw [hL1, List.length_set])
    have ho1 : allOv v L1 := (hL1 ▸ set_ov hov k)
    have hc1 : L1.count (ovE v) = l.length - 1 := (by rw [hL1, hl, set_count v (by omega), List.length_replicate])
    have o9 : Ows w.heap.size w7 48 10 (.slice (some ⟨b_X, 0, none⟩) (l.map En.cells).length co) (L1.map En.cells) := (by rw [hL1, List.map_set]; exact Ows.set_row hb_X (en_rows l) rfl g_X rfl k_X m_X l_X)
    refine RL.nil (RC.back ?_)
    refine RC.seq ?_
    refine RC.region rfl ?_
    refine RL.ev (.move rfl) rfl rfl ?_
    refine RL.call rfl ok7 (c_Order L1 (some ⟨b_X, 0, none⟩) co _ (by simp only [List.length_map]; omega) (by omega) w7 o9.sl.1) rfl rfl ?_
    rintro _ w8 ⟨s9, a63, c63, rfl, _, hs63⟩
    have S := S.trans s9
    have o8 := o8.sub s9
    have szB := Nat.le_trans szB s9.size
    have o9 := o9.sub s9
    rw [ov_order hvb ho1 (by omega)] at hs63
    rw [ov_order hvb ho1 (by omega)]
    rw [hL1l, hll] at hs63
    rw [hL1l, hll]
    obtain ⟨W9, S9, hs63⟩ : ∃ W, Sub W w8 ∧ Sl W a63 1 ((natsI n).map fun x => [i6 x]) := ⟨_, Sub.refl _, hs63⟩
    refine RL.ev (.move rfl) rfl rfl ?_
    refine RL.ev (.extract rfl rfl) rfl rfl ?_
    refine RL.ev (.extract rfl rfl) rfl rfl ?_
    refine RL.ev (.assign rfl) rfl rfl ?_
    refine RL.ev (.assign rfl) rfl rfl ?_
    refine RL.nil (RC.back ?_)
    refine RC.seq ?_
    refine RC.seq ?_
    refine RC.region rfl ?_
    refine RL.ev (.move rfl) rfl rfl ?_
    refine RL.ev (.move rfl) rfl rfl ?_
    refine RL.call rfl ok14 (FC.asV (v' := .int .i64 0) (c_Fits L1 (some ⟨b_X, 0, none⟩) co _ (by simp only [List.length_map]; omega) (by omega) o bo cp _ (List.length_map _) k8 (by omega) w8 o9.sl.1 o8.sl.1) (congrArg (Value.int .i64) (ov_fits hvb ho1 (by omega) ⟨by rw [hL1l]; omega, fun j hj => hpm.2 j (by omega)⟩))) rfl rfl ?_
    rintro _ w10 ⟨rfl, s11⟩
    have S := S.trans s11
    have o8 := o8.sub s11
    have szB := Nat.le_trans szB s11.size
    have o9 := o9.sub s11
    have S9 := S9.trans s11
    refine RL.ev (.as (v' := .bool false) (.bin rfl rfl rfl) (congrArg Value.bool (decide_eq_false (fun h => h rfl)))) rfl rfl ?_
    refine RL.ev (.move rfl) rfl rfl ?_
    refine RL.ev (.move rfl) rfl rfl ?_
    refine RL.ev (.as (v' := .bool false) (.bin rfl rfl rfl) (congrArg Value.bool (decide_eq_false (fun h => h rfl)))) rfl rfl ?_
    refine RL.ev (.pick_f rfl rfl) rfl rfl ?_
    refine RL.ev (.move rfl) rfl rfl ?_
    refine RL.ev (.move rfl) rfl rfl ?_
    refine RL.ev (.len sl23 rfl) rfl rfl ?_
    refine RL.ev (.move rfl) rfl rfl ?_
    refine RL.ev (.as (v' := .bool false) (.bin rfl rfl rfl) (congrArg Value.bool (decide_eq_false (fun h => h (by rw [List.length_map, natsI_len]))))) rfl rfl ?_
    refine RL.ev (.pick_f rfl rfl) rfl rfl ?_
    refine RL.ev (.move rfl) rfl rfl ?_
    refine RL.ev (.move rfl) rfl rfl ?_
    refine RL.ev (.indexS sl23 rfl rfl (by rw [List.length_map, natsI_len]; omega) (hs63.is (i := 0) (by rw [List.length_map, natsI_len]; omega))) rfl rfl ?_
    refine RL.ev (.load1 sh3 rfl ((hs63.sub S9).one (enc := i6) (i := 0) (natsI_get (by omega)))) rfl rfl ?_
    refine RL.ev (.as (v' := .bool false) (.bin rfl rfl rfl) (congrArg Value.bool (decide_eq_false (fun h => h rfl)))) rfl rfl ?_
    refine RL.ev (.pick_f rfl rfl) rfl rfl ?_
    refine RL.ev (.move rfl) rfl rfl ?_
    refine RL.ev (.move rfl) rfl rfl ?_
    refine RL.ev (.move rfl) rfl rfl ?_
    refine RL.ev (.as (.bin rfl rfl rfl) (wi64 (y := ((n - 1 : Nat) : Int)) (by omega) (by omega))) rfl rfl ?_
    refine RL.ev (.indexS sl23 rfl rfl (by rw [List.length_map, natsI_len]; omega) (hs63.is (i := 0) (by rw [List.length_map, natsI_len]; omega))) rfl rfl ?_
    refine RL.ev (.load1 sh3 rfl ((hs63.sub S9).one (enc := i6) (i := n - 1) (natsI_get (by omega)))) rfl rfl ?_
    refine RL.ev (.move rfl) rfl rfl ?_
    refine RL.ev (.as (.bin rfl rfl rfl) (wi64 (y := ((n - 1 : Nat) : Int)) (by omega) (by omega))) rfl rfl ?_
    refine RL.ev (.as (v' := .bool false) (.bin rfl rfl rfl) (congrArg Value.bool (decide_eq_false (fun h => h rfl)))) rfl rfl ?_
    refine RL.ev (.pick_f rfl rfl) rfl rfl ?_
    refine RL.nil (RC.back ?_)
    refine RC.cond_f rfl ?_
    refine RC.skip (RC.back ?_)
    refine RC.seq ?_
    refine RC.region rfl ?_
    refine RL.ev (.move rfl) rfl rfl ?_
    refine RL.ev (.as (v' := .agg #[.int .i64 3, .int .i64 6, .int .i64 0, .int .i64 0]) (.buildS ze40 pl40 rfl rfl) (by rfl)) rfl rfl ?_
    refine RL.ev (.move rfl) rfl rfl ?_
    refine RL.ev (.as (.bin rfl rfl rfl) (wi64 (y := ((n - 1 : Nat) : Int)) (by omega) (by omega))) rfl rfl ?_
    refine RL.ev (.as (v' := .agg #[.int .i64 0, .int .i64 ((n - 1 : Nat) : Int), .int .i64 0]) (.buildS ze43 pl43 rfl rfl) (by rfl)) rfl rfl ?_
    refine RL.ev (.as (v' := .agg (szE ((n - 1 : Nat) : Int)).cells.toArray) (.buildS ze48 pl48 rfl rfl) (by rfl)) rfl rfl ?_
    refine RL.buildSlice1 sl22 _ ze48 rfl rfl rfl rfl rfl rfl rfl (fun b_102 w_102 e_102 z_102 hb_102 s_102 => ?_)
    have ge_102 := S.le e_102
    have d_o8_b_102 := o8.neNew e_102
    have d_o9_b_102 := o9.neNew e_102
    have S := S.trans s_102
    have o8 := o8.sub s_102
    have szB := Nat.le_trans szB s_102.size
    have o9 := o9.sub s_102
    have sz_103 := S.size
    have ltb_102_103 := hb_102.lt
    refine RL.append2 (base := w.heap.size) (rows := L1.map En.cells) (news := [_]) sl22 ze48 rfl rfl rfl rfl (.inl o9) (Has.slOne hb_102) rfl (by intro r hr; rw [List.mem_singleton] at hr; subst hr; rfl) rfl (by (try simp only [List.length_map, List.length_nil, List.length_append, List.length_cons]); omega) (by (try simp only [List.length_map, List.length_nil, List.length_append, List.length_cons]); omega) (by omega) rfl rfl (fun v_103 w_103 hc_103 ho_103 ag_103 ob_103 => ?_)
    have o103 := ho_103 (.inl (by simp))
    rw [show _ ++ [_] = ((L1 ++ [szE ((n - 1 : Nat) : Int)]).map En.cells) from by rw [List.map_append]; rfl] at o103
    have dd_o103_o8 := obDD ob_103 (fun k hk h2 => (fun k hk (e : k = b_X) => d78 k (by rw [e]; rfl) hk) k h2 (obLit hk).symm) (fun k hk => (o8.ge k hk).2)
    have S := S.agrN ag_103 (fun k e => Nat.le_trans (by omega) e.2)
    have o8 := o8.step ag_103 (fun k hk e => (fun k hk h2 => (fun k hk (e : k = b_X) => d78 k (by rw [e]; rfl) hk) k h2 (obLit hk).symm) k e.1 hk)
    have szB := Nat.le_trans szB ag_103.size
    obtain ⟨a_103, c_103, rfl, k_103⟩ := o103.form
    refine RL.ev (.assign rfl) rfl rfl ?_
    refine RL.nil (RC.back ?_)
    refine RC.seq ?_
    refine RC.region rfl ?_
    refine RL.ev (.move rfl) rfl rfl ?_
    refine RL.call rfl ok7 (c_Order (L1 ++ [szE ((n - 1 : Nat) : Int)]) a_103 c_103 _ (List.length_map _) (by rw [List.length_append, List.length_singleton]; omega) w_103 o103.sl.1) rfl rfl ?_
    rintro _ w12 ⟨s13, a106, c106, rfl, _, _⟩
    have S := S.trans s13
    have o8 := o8.sub s13
    have szB := Nat.le_trans szB s13.size
    have o103 := o103.sub s13
    have hq1 : (orderM (L1 ++ [szE ((n - 1 : Nat) : Int)])).2 = 0 := sz_yes hvb ho1 (by omega) (by rw [hc1, hll])
    refine RL.ev (.move rfl) rfl rfl ?_
    refine RL.ev (.extract rfl rfl) rfl rfl ?_
    refine RL.ev (.extract rfl rfl) rfl rfl ?_
    refine RL.ev (.assign rfl) rfl rfl ?_
    refine RL.ev (.assign rfl) rfl rfl ?_
    refine RL.nil (RC.back ?_)
    refine RC.seq ?_
    refine RC.region rfl ?_
    refine RL.ev (.move rfl) rfl rfl ?_
    obtain ⟨b_Y, cap_Y, ex_Y, f_Y, g_Y, k_Y, m_Y, hb_Y, l_Y⟩ := o103.has (by rw [List.length_map, List.length_append, List.length_singleton]; omega)
    simp only [Value.slice.injEq] at f_Y
    obtain ⟨rfl, hlen_Y, rfl⟩ := f_Y
    have ge_Y : w.heap.size ≤ b_Y := by omega
    have hxn : (L1 ++ [szE ((n - 1 : Nat) : Int)])[n]? = some (szE ((n - 1 : Nat) : Int)) := (by rw [List.getElem?_append_right (by omega), hL1l, hll, Nat.sub_self]; rfl)
    refine RL.ev (.move rfl) rfl rfl ?_
    refine RL.ev (.indexO sl22 rfl rfl (by simp only [List.length_map, List.length_append, List.length_singleton]; omega)) rfl rfl ?_
    refine RL.ev (.field0 fo48_2 rfl) rfl rfl ?_
    refine RL.ev (.field0 fo43_1 rfl) rfl rfl ?_
    refine RL.ev (.load1 sh2 rfl (hb_Y.rowCell (enc := En.cells) (sz := 10) (fun _ => rfl) (i := n) (j := 6) hxn rfl (by rw [Nat.zero_add]; rfl))) rfl rfl ?_
    refine RL.ev (.as (.bin rfl rfl rfl) (wi64 (y := (n : Int)) (by show ((n - 1 : Nat) : Int) + 1 = n; omega) (by omega))) rfl rfl ?_
    refine RL.ev (.indexO sl22 rfl rfl (by simp only [List.length_map, List.length_append, List.length_singleton]; omega)) rfl rfl ?_
    refine RL.ev (.field0 fo48_2 rfl) rfl rfl ?_
    refine RL.ev (.field0 fo43_1 rfl) rfl rfl ?_
    refine RL.store sh2 rfl rfl rfl hb_Y (by rw [List.length_append, flat_len (sz := 10) _ (en_rows _), List.length_map, List.length_append, List.length_singleton]; show _ + 1 ≤ _; omega) (by rfl) rfl (fun w14 z14 hb_Y a14 => ?_)
    have S := S.upd a14 ge_Y
    have o8 := o8.updD a14 (fun k hk (e : k = b_Y) => dd_o103_o8 k (by rw [e]; rfl) hk)
    have szB := Nat.le_trans szB a14.size
    have hb_Y : Has w14 b_Y (splice (((L1 ++ [szE ((n - 1 : Nat) : Int)]).map En.cells).flatten ++ ex_Y) (n * 10 + 6) [.int .i64 (n : Int)]) 48 := (by have q := hb_Y; rw [Nat.zero_add] at q; exact q)
    have hb_Y : Has w14 b_Y ((((L1 ++ [szE ((n - 1 : Nat) : Int)]).map En.cells).set n (szE (n : Int)).cells).flatten ++ ex_Y) 48 := Has.part_set hb_Y (en_rows _) (r := (szE ((n - 1 : Nat) : Int)).cells) (by rw [List.getElem?_map, hxn]; rfl) (Nat.le_of_ble_eq_true rfl)
    have hL2 : (L1 ++ [szE ((n - 1 : Nat) : Int)]).set n (szE (n : Int)) = L1 ++ [szE (n : Int)] := (by rw [List.set_append_right _ _ (by omega), hL1l, hll, Nat.sub_self, List.set_cons_zero])
    have hs21 : Sl w14 (some ⟨b_Y, 0, none⟩) 10 ((L1 ++ [szE (n : Int)]).map En.cells) := (by rw [← hL2, List.map_set]; exact hb_Y.sl (fun q hq => (List.mem_or_eq_of_mem_set hq).elim (en_rows _ q) (fun e => by rw [e]; rfl)))
    refine RL.nil (RC.back ?_)
    refine RC.seq ?_
    refine RC.region rfl ?_
    refine RL.ev (.move rfl) rfl rfl ?_
    refine RL.call rfl ok7 (c_Order (L1 ++ [szE (n : Int)]) (some ⟨b_Y, 0, none⟩) c_103 _ (by simp only [List.length_map, List.length_append, List.length_singleton]) (by rw [List.length_append, List.length_singleton]; omega) w14 hs21) rfl rfl ?_
    rintro _ w15 ⟨s16, a121, c121, rfl, _, _⟩
    have S := S.trans s16
    have o8 := o8.sub s16
    have szB := Nat.le_trans szB s16.size
    have hb_Y := hb_Y.sub s16
    have hq2 : (orderM (L1 ++ [szE (n : Int)])).2 = 3 := sz_no hvb ho1 (by omega) (by rw [hc1, hll]; omega)
    refine RL.ev (.move rfl) rfl rfl ?_
    refine RL.ev (.extract rfl rfl) rfl rfl ?_
    refine RL.ev (.extract rfl rfl) rfl rfl ?_
    refine RL.ev (.assign rfl) rfl rfl ?_
    refine RL.ev (.assign rfl) rfl rfl ?_
    refine RL.nil (RC.back ?_)
    refine RC.seq ?_
    refine RC.region rfl ?_
    refine RL.ev (.move rfl) rfl rfl ?_
    refine RL.ev (.as (v' := .bool true) (.bin rfl rfl rfl) (congrArg Value.bool (decide_eq_true (hq1)))) rfl rfl ?_
    refine RL.ev (.move rfl) rfl rfl ?_
    refine RL.ev (.move rfl) rfl rfl ?_
    refine RL.ev (.as (v' := .bool true) (.bin rfl rfl rfl) (congrArg Value.bool (decide_eq_true (hq2)))) rfl rfl ?_
    refine RL.ev (.pick_t rfl rfl) rfl rfl ?_
    refine RL.ev (.assign rfl) rfl rfl ?_
    refine RL.nil (RC.back ?_)
    refine RC.done (rs := [.tmp 6]) (vs := [_]) rfl rfl ⟨rfl, trivial⟩ ?_
    -- end 1
    exact ⟨rfl, S⟩
end Go.Proofs.Ytlhnnleaiinjaaa
