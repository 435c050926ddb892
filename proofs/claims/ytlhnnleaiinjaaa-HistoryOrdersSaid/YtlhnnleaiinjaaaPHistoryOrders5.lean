/-
  What the law HistoryOrders leans on, part 5.
-/
import Derived.Test.YtlhnnleaiinjaaaPHistoryOrders4
set_option linter.unusedVariables false
set_option linter.unusedSimpArgs false
namespace Go.Proofs.Ytlhnnleaiinjaaa
open Go Go.XL
theorem m0_right : rightM m0 := by
  rw [rightM_iff]
  refine ⟨fun i x y h => by simp [m0] at h, fun x h => by simp [m0] at h, ⟨fun x h => by simp [m0] at h, by decide⟩, ⟨fun x h => by simp [m0] at h, by decide⟩, ⟨fun x h => by simp [m0] at h, by decide⟩, by decide, List.Pairwise.nil, List.Pairwise.nil⟩
instance (l : List En) (i j : Int) : Decidable (laterP l i j) := by unfold laterP; infer_instance
noncomputable def orderM (l : List En) : List Int × Int := cond (pB (rightH l ∧ l.length ≤ 8)) (match tryM l l.length [] m0 with | some r => (r, 0) | none => ([], 3)) ([], 1)
theorem orderM_no {l : List En} (h : ¬ (rightH l ∧ l.length ≤ 8)) : orderM l = ([], 1) := by unfold orderM; rw [pB_no h]; rfl
theorem orderM_some {l : List En} (h : rightH l ∧ l.length ≤ 8) {r : List Int} (hr : tryM l l.length [] m0 = some r) : orderM l = (r, 0) := by unfold orderM; rw [pB_yes h, hr]; rfl
theorem orderM_none {l : List En} (h : rightH l ∧ l.length ≤ 8) (hr : tryM l l.length [] m0 = none) : orderM l = ([], 3) := by unfold orderM; rw [pB_yes h, hr]; rfl
def AnsO (w w' : World) (q : List Int × Int) (u : Value) : Prop := Sub w w' ∧ ∃ a c, u = .tuple #[.slice a (q.1.map fun x => [i6 x]).length c, .int .i64 q.2] ∧ q.1.length ≤ c ∧ Sl w' a 1 (q.1.map fun x => [i6 x])
theorem c_Order (l : List En) (la : Option Addr) (lc m : Nat) (hm : m = l.length) (hlen : l.length ≤ 1000) (w : World) (hl : Sl w la 10 (l.map En.cells)) :
    FC Try.prog 7 [.slice la m lc] w (fun u w' => AnsO w w' (orderM l) u) := by
  subst hm
  refine FC.intro Try.func7 rfl Try.ntmps7 rfl ?_
  have S := Sub.refl w
  refine RC.seq ?_
  refine RC.region rfl ?_
  refine RL.box rfl rfl rfl (fun b_1 w_1 e_1 z_1 hb_1 s_1 => ?_)
  have ge_1 := S.le e_1
  have S := S.trans s_1
  refine RL.ev (.assign rfl) rfl rfl ?_
  refine RL.ev (.assign rfl) rfl rfl ?_
  refine RL.nil (RC.back ?_)
  refine RC.seq ?_
  refine RC.seq ?_
  refine RC.region rfl ?_
  refine RL.ev (.load1 sh22 rfl (hb_1.cell rfl)) rfl rfl ?_
  refine RL.call rfl ok13 (c_hRight l la lc _ rfl w_1 (hl.sub S) (by omega)) rfl rfl ?_
  rintro _ w1 ⟨rfl, s2⟩
  have S := S.trans s2
  have hb_1 := hb_1.sub s2
  refine RL.ev (.not rfl) rfl rfl ?_
  refine RL.ev (.move rfl) rfl rfl ?_
  refine RL.splitB 9 rfl (fun h3 => ?_) (fun h3 => ?_)
  ·
    have g9 : ¬ rightH l := (fun e => by rw [pB_yes e] at h3; cases h3)
    refine RL.off rfl rfl ?_
    refine RL.off rfl rfl ?_
    refine RL.off rfl rfl ?_
    refine RL.ev (.pick_t rfl rfl) rfl rfl ?_
    refine RL.nil (RC.back ?_)
    refine RC.cond_t rfl ?_
    refine RC.seq ?_
    refine RC.region rfl ?_
    refine RL.ev (.assign rfl) rfl rfl ?_
    refine RL.ev (.assign rfl) rfl rfl ?_
    refine RL.nil (RC.back ?_)
    refine RC.done (rs := [.tmp 2, .tmp 3]) (vs := [_, _]) rfl rfl ⟨rfl, rfl, trivial⟩ ?_
    -- end 1
    rw [orderM_no (fun e => g9 e.1)]
    exact ⟨S, none, 0, rfl, Nat.le_refl _, Sl.nil _ _ _⟩
  ·
    have g9 : rightH l := (by have q := h3; rw [Bool.not_eq_false'] at q; exact pB_iff.1 q)
    refine RL.ev (.load1 sh22 rfl (hb_1.cell rfl)) rfl rfl ?_
    refine RL.ev (.len sl22 rfl) rfl rfl ?_
    refine RL.ev (.bin rfl rfl rfl) rfl rfl ?_
    refine RL.ev (.pick_f rfl rfl) rfl rfl ?_
    refine RL.nil (RC.back ?_)
    refine RC.cond_dec rfl (fun h4 => ?_) (fun h4 => ?_)
    ·
      have g13 : ¬ l.length ≤ 8 := (by omega)
      refine RC.seq ?_
      refine RC.region rfl ?_
      refine RL.ev (.assign rfl) rfl rfl ?_
      refine RL.ev (.assign rfl) rfl rfl ?_
      refine RL.nil (RC.back ?_)
      refine RC.done (rs := [.tmp 2, .tmp 3]) (vs := [_, _]) rfl rfl ⟨rfl, rfl, trivial⟩ ?_
      -- end 2
      rw [orderM_no (fun e => g13 e.2)]
      exact ⟨S, none, 0, rfl, Nat.le_refl _, Sl.nil _ _ _⟩
    ·
      have g13 : rightH l ∧ l.length ≤ 8 := ⟨g9, by omega⟩
      refine RC.skip (RC.back ?_)
      refine RC.seq ?_
      refine RC.region rfl ?_
      refine RL.alloc ze23 rfl rfl (fun b_4 w_4 e_4 z_4 hb_4 s_4 => ?_)
      have ge_4 := S.le e_4
      have n_1__4 := hb_1.ne e_4
      have S := S.trans s_4
      have hb_1 := hb_1.sub s_4
      refine RL.nil (RC.back ?_)
      refine RC.seq ?_
      refine RC.region rfl ?_
      refine RL.alloc ze51 rfl rfl (fun b_5 w_5 e_5 z_5 hb_5 s_5 => ?_)
      have ge_5 := S.le e_5
      have n_1__5 := hb_1.ne e_5
      have n_4__5 := hb_4.ne e_5
      have S := S.trans s_5
      have hb_1 := hb_1.sub s_5
      have hb_4 := hb_4.sub s_5
      refine RL.nil (RC.back ?_)
      refine RC.seq ?_
      refine RC.region rfl ?_
      refine RL.ev (.func (xs := []) (ys := [_, _, _]) rfl rfl) rfl rfl ?_
      refine RL.store sh51 rfl rfl rfl hb_5 (by exact Nat.le_of_ble_eq_true rfl) (by rfl) rfl (fun w5 z5 hb_5 a5 => ?_)
      have S := S.upd a5 ge_5
      have hb_1 := hb_1.upd a5 n_1__5
      have hb_4 := hb_4.upd a5 n_4__5
      have hb_5 : Has w5 b_5 ([.func (.func 17) #[] #[.pointer (some ⟨b_4, 0, none⟩), .pointer (some ⟨b_1, 0, none⟩), .pointer (some ⟨b_5, 0, none⟩)]]) _ := hb_5
      refine RL.nil (RC.back ?_)
      refine RC.seq ?_
      refine RC.seq ?_
      refine RC.region rfl ?_
      refine RL.ev (.load1 sh51 rfl (hb_5.cell rfl)) rfl rfl ?_
      refine RL.ev (.as (v' := moV p0 m0) (.buildS ze38 pl38 rfl rfl) (by rfl)) rfl rfl ?_
      refine RL.callv rfl rfl (us := []) (cs := [.pointer (some ⟨b_4, 0, none⟩), .pointer (some ⟨b_1, 0, none⟩), .pointer (some ⟨b_5, 0, none⟩)]) ok17 (c_try l la lc b_4 b_1 b_5 w hl hlen g9 n_1__4.symm n_4__5 n_1__5 ge_4 ge_1 ge_5 l.length [] m0 p0 (fun _ => False) none 0 w5 (by simp) (by simp) m0_right ⟨Nat.le_refl _, Nat.le_refl _, Nat.le_refl _, Nat.le_refl _, Nat.zero_le _, Nat.zero_le _, Nat.zero_le _, Nat.zero_le _⟩ ⟨S, hb_1, hb_5, hb_4, Ows.nil _ _ _ _, ⟨fun k hk => hk.elim, fun u _ => ⟨Sl.nil _ _ _, Sl.nil _ _ _, Sl.nil _ _ _, Sl.nil _ _ _⟩⟩, fun k hk => obNil hk, fun k hk => obNil hk, fun k hk => obNil hk, fun k hk => hk.elim, fun k hk => obNil hk, fun k hk => hk.elim, fun k hk => hk.elim⟩) rfl rfl ?_
      rintro _ w6 ⟨oa3, oc3, rfl, S', hb_4', ow3, a17, _⟩
      have S := S'
      have hb_4 := hb_4'
      refine RL.ev (.not rfl) rfl rfl ?_
      refine RL.nil (RC.back ?_)
      refine RC.cond rfl (fun h8 => ?_) (fun h8 => ?_)
      ·
        have hnone : tryM l l.length [] m0 = none := (by have q := h8; simpa using q)
        refine RC.seq ?_
        refine RC.region rfl ?_
        refine RL.ev (.assign rfl) rfl rfl ?_
        refine RL.ev (.assign rfl) rfl rfl ?_
        refine RL.nil (RC.back ?_)
        refine RC.done (rs := [.tmp 2, .tmp 3]) (vs := [_, _]) rfl rfl ⟨rfl, rfl, trivial⟩ ?_
        -- end 3
        rw [orderM_none g13 hnone]
        exact ⟨S, none, 0, rfl, Nat.le_refl _, Sl.nil _ _ _⟩
      ·
        obtain ⟨rr, hsome⟩ : ∃ rr, tryM l l.length [] m0 = some rr := Option.isSome_iff_exists.1 (by have q := h8; simpa using q)
        rw [hsome] at hb_4 ow3
        refine RC.skip (RC.back ?_)
        refine RC.seq ?_
        refine RC.region rfl ?_
        refine RL.ev (.load1 sh23 rfl (hb_4.cell rfl)) rfl rfl ?_
        refine RL.ev (.assign rfl) rfl rfl ?_
        refine RL.ev (.assign rfl) rfl rfl ?_
        refine RL.nil (RC.back ?_)
        refine RC.done (rs := [.tmp 2, .tmp 3]) (vs := [_, _]) rfl rfl ⟨rfl, rfl, trivial⟩ ?_
        -- end 4
        rw [orderM_some g13 hsome]
        exact ⟨S, oa3, oc3, rfl, (by obtain ⟨_, _, e, hh⟩ := ow3.form; cases e; rw [List.length_map] at hh; exact hh), ow3.sl.1⟩
theorem playM_step {l : List En} {o : List Int} {i : Nat} {x : Int} {m : Mo} (hx : o[i]? = some x) (h : playM m0 ((o.take i).map (enAt l)) = some m) : playM m0 ((o.take (i + 1)).map (enAt l)) = if (ansM m (enAt l x)).2 then some (ansM m (enAt l x)).1 else none := by
  rw [List.take_add_one, hx, List.map_append, playM_app, h]
  simp [playM]
theorem playM_dead {l : List En} {o : List Int} {i : Nat} (h : playM m0 ((o.take i).map (enAt l)) = none) : playM m0 (o.map (enAt l)) = none := by
  conv => lhs; rw [← List.take_append_drop i o]
  rw [List.map_append, playM_app, h]; rfl
end Go.Proofs.Ytlhnnleaiinjaaa
set_option linter.unusedVariables false
set_option linter.unusedSimpArgs false
namespace Go.Proofs.Ytlhnnleaiinjaaa
open Go Go.XL
theorem add_add' (a : Addr) (m n : Nat) : (a.add m).add n = a.add (m + n) := by
  unfold Addr.add
  by_cases hm : m = 0 <;> by_cases hn : n = 0 <;> simp [hm, hn, Nat.add_assoc]
theorem rowPart {w : World} {a : Addr} {cs pre mid post : List Value} (h : Row w a cs) (hc : cs = pre ++ mid ++ post) : Row w (a.add pre.length) mid := by
  intro i v hv
  have hlt : i < mid.length := by
    rcases Nat.lt_or_ge i mid.length with q | q
    · exact q
    · rw [List.getElem?_eq_none q] at hv; cases hv
  rw [add_add']
  refine h (pre.length + i) v ?_
  rw [hc, List.append_assoc, List.getElem?_append_right (by omega), Nat.add_sub_cancel_left, List.getElem?_append_left hlt, hv]
theorem right_step {l : List En} {i : Nat} {x : En} (h : l[i]? = some x) : (∀ y ∈ l.take (i + 1), rightE y) ↔ (∀ y ∈ l.take i, rightE y) ∧ rightE x := by
  rw [List.take_add_one, h]
  constructor
  · exact fun g => ⟨fun o ho => g o (List.mem_append.2 (.inl ho)), g x (by simp)⟩
  · rintro ⟨g1, g2⟩ o ho
    rcases List.mem_append.1 ho with ho | ho
    · exact g1 o ho
    · have : o = x := by simpa using ho
      rw [this]; exact g2
theorem c_ref20Right (l : List En) (a : Option Addr) (c m : Nat) (hm : m = l.length) (w : World) (hl : Sl w a 10 (l.map En.cells)) (hb : l.length ≤ 1000000) :
    FC Try.prog 8 [.slice a m c] w (Val (.bool (pB (rightH l))) w) := by
  subst hm
  refine FC.intro Try.func8 rfl Try.ntmps8 rfl ?_
  have S := Sub.refl w
  refine RC.seq ?_
  refine RC.region rfl ?_
  refine RL.ev (.assign rfl) rfl rfl ?_
  refine RL.nil (RC.back ?_)
  refine RC.seq ?_
  refine RC.seq ?_
  refine RC.region rfl ?_
  refine RL.ev (.move rfl) rfl rfl ?_
  refine RL.ev (.len sl22 rfl) rfl rfl ?_
  refine RL.ev (.move rfl) rfl rfl ?_
  refine RL.nil (RC.back ?_)
  refine RC.block ?_
  refine RC.loop (α := Nat) (fun i => [(0, .slice a l.length c), (5, .slice a l.length c), (6, .int .i64 (l.length : Int)), (7, .int .i64 (i : Int))]) (fun i w1 => (i ≤ l.length ∧ ∀ x ∈ l.take i, rightE x) ∧ Sub w w1) (fun i => l.length - i) 0 (keep_of (by repeat (first | exact trivial | refine And.intro rfl ?_))) (⟨⟨Nat.zero_le _, by simp⟩, S⟩) (fun i w1 hJ => ?_)
  obtain ⟨⟨hi, hp⟩, S⟩ := hJ
  refine RC.seq ?_
  refine RC.region rfl ?_
  refine RL.ev (.bin rfl rfl rfl) rfl rfl ?_
  refine RL.nil (RC.back ?_)
  refine RC.seq ?_
  refine RC.cond_dec rfl (fun h2 => ?_) (fun h2 => ?_)
  ·
    obtain ⟨x, hx⟩ := getSome (l := l) (i := i) (by omega)
    have hxm := List.mem_of_getElem? hx
    refine RC.skip (RC.back ?_)
    refine RC.seq ?_
    refine RC.block ?_
    refine RC.seq ?_
    refine RC.region rfl ?_
    refine RL.ev (.indexS sl22 rfl rfl (by omega) (hl.is (i := 0) (by simp only [List.length_map, List.length_cons, List.length_nil]; omega))) rfl rfl ?_
    refine RL.ev (.loadR (x.cells) sh48 rfl ((hl.sub S).rowAt (enc := En.cells) (i := i) hx) rfl) rfl rfl ?_
    refine RL.alloc ze48 rfl rfl (fun b_4 w_4 e_4 z_4 hb_4 s_4 => ?_)
    have ge_4 := S.le e_4
    have S := S.trans s_4
    refine RL.store sh48 rfl rfl rfl hb_4 (by exact Nat.le_of_ble_eq_true rfl) (by rfl) rfl (fun w3 z3 hb_4 a3 => ?_)
    have S := S.upd a3 ge_4
    have hb_4 : Has w3 b_4 (x.cells) _ := hb_4.now (by kernel_rfl)
    refine RL.nil (RC.back ?_)
    refine RC.seq ?_
    refine RC.region rfl ?_
    refine RL.ev (.field0 fo48_1 rfl) rfl rfl ?_
    refine RL.ev (.loadR (x.op.cells) sh40 rfl (Has.row_at (pre := [.int .i64 x.proc]) (mid := x.op.cells) (post := [.int .i64 x.res.e, .int .i64 x.res.a, .int .i64 x.res.b, .int .i64 x.fr, .int .i64 x.to]) hb_4 rfl) rfl) rfl rfl ?_
    refine RL.call rfl ok15 (c_ref13Right x.op w3) rfl rfl ?_
    rintro _ w4 ⟨rfl, s5⟩
    have S := S.trans s5
    have hb_4 := hb_4.sub s5
    refine RL.ev (.not rfl) rfl rfl ?_
    refine RL.ev (.move rfl) rfl rfl ?_
    refine RL.splitB 15 rfl (fun h6 => ?_) (fun h6 => ?_)
    ·
      have gn : ¬ rightE x := (fun e => by have q := h6; simp [e.1] at q)
      refine RL.off rfl rfl ?_
      refine RL.off rfl rfl ?_
      refine RL.off rfl rfl ?_
      refine RL.ev (.pick_t rfl rfl) rfl rfl ?_
      refine RL.ev (.move rfl) rfl rfl ?_
      refine RL.off rfl rfl ?_
      refine RL.off rfl rfl ?_
      refine RL.off rfl rfl ?_
      refine RL.off rfl rfl ?_
      refine RL.off rfl rfl ?_
      refine RL.ev (.pick_t rfl rfl) rfl rfl ?_
      refine RL.ev (.move rfl) rfl rfl ?_
      refine RL.off rfl rfl ?_
      refine RL.off rfl rfl ?_
      refine RL.off rfl rfl ?_
      refine RL.ev (.pick_t rfl rfl) rfl rfl ?_
      refine RL.nil (RC.back ?_)
      refine RC.cond_t rfl ?_
      refine RC.seq ?_
      refine RC.region rfl ?_
      refine RL.ev (.assign rfl) rfl rfl ?_
      refine RL.nil (RC.back ?_)
      refine RC.done (rs := [.tmp 2]) (vs := [_]) rfl rfl ⟨rfl, trivial⟩ ?_
      -- end 1
      rw [pB_no (fun e => gn (e.1 x hxm))]
      exact ⟨rfl, S⟩
    ·
      have g15 : okP x.op := (by have q := h6; simpa using q)
      refine RL.ev (.field0 fo48_3 rfl) rfl rfl ?_
      refine RL.ev (.load1 sh3 rfl (hb_4.cell rfl)) rfl rfl ?_
      refine RL.ev (.bin rfl rfl rfl) rfl rfl ?_
      refine RL.ev (.pick_f rfl rfl) rfl rfl ?_
      refine RL.ev (.move rfl) rfl rfl ?_
      refine RL.split 20 rfl (fun h7 => ?_) (fun h7 => ?_)
      ·
        have gn : ¬ rightE x := (fun e => by have q := e.2.1; omega)
        refine RL.off rfl rfl ?_
        refine RL.off rfl rfl ?_
        refine RL.off rfl rfl ?_
        refine RL.off rfl rfl ?_
        refine RL.off rfl rfl ?_
        refine RL.ev (.pick_t rfl rfl) rfl rfl ?_
        refine RL.ev (.move rfl) rfl rfl ?_
        refine RL.off rfl rfl ?_
        refine RL.off rfl rfl ?_
        refine RL.off rfl rfl ?_
        refine RL.ev (.pick_t rfl rfl) rfl rfl ?_
        refine RL.nil (RC.back ?_)
        refine RC.cond_t rfl ?_
        refine RC.seq ?_
        refine RC.region rfl ?_
        refine RL.ev (.assign rfl) rfl rfl ?_
        refine RL.nil (RC.back ?_)
        refine RC.done (rs := [.tmp 2]) (vs := [_]) rfl rfl ⟨rfl, trivial⟩ ?_
        -- end 2
        rw [pB_no (fun e => gn (e.1 x hxm))]
        exact ⟨rfl, S⟩
      ·
        refine RL.ev (.field0 fo48_3 rfl) rfl rfl ?_
        refine RL.ev (.load1 sh3 rfl (hb_4.cell rfl)) rfl rfl ?_
        refine RL.ev (.field0 fo48_4 rfl) rfl rfl ?_
        refine RL.ev (.load1 sh3 rfl (hb_4.cell rfl)) rfl rfl ?_
        refine RL.ev (.bin rfl rfl rfl) rfl rfl ?_
        refine RL.ev (.pick_f rfl rfl) rfl rfl ?_
        refine RL.ev (.move rfl) rfl rfl ?_
        refine RL.split 27 rfl (fun h8 => ?_) (fun h8 => ?_)
        ·
          have gn : ¬ rightE x := (fun e => by have q := e.2.2.1; omega)
          refine RL.off rfl rfl ?_
          refine RL.off rfl rfl ?_
          refine RL.off rfl rfl ?_
          refine RL.ev (.pick_t rfl rfl) rfl rfl ?_
          refine RL.nil (RC.back ?_)
          refine RC.cond_t rfl ?_
          refine RC.seq ?_
          refine RC.region rfl ?_
          refine RL.ev (.assign rfl) rfl rfl ?_
          refine RL.nil (RC.back ?_)
          refine RC.done (rs := [.tmp 2]) (vs := [_]) rfl rfl ⟨rfl, trivial⟩ ?_
          -- end 3
          rw [pB_no (fun e => gn (e.1 x hxm))]
          exact ⟨rfl, S⟩
        ·
          refine RL.ev (.field0 fo48_4 rfl) rfl rfl ?_
          refine RL.ev (.load1 sh3 rfl (hb_4.cell rfl)) rfl rfl ?_
          refine RL.ev (.bin rfl rfl rfl) rfl rfl ?_
          refine RL.ev (.pick_f rfl rfl) rfl rfl ?_
          refine RL.nil (RC.back ?_)
          refine RC.cond_dec rfl (fun h9 => ?_) (fun h9 => ?_)
          ·
            have gn : ¬ rightE x := (fun e => by have q := e.2.2.2; omega)
            refine RC.seq ?_
            refine RC.region rfl ?_
            refine RL.ev (.assign rfl) rfl rfl ?_
            refine RL.nil (RC.back ?_)
            refine RC.done (rs := [.tmp 2]) (vs := [_]) rfl rfl ⟨rfl, trivial⟩ ?_
            -- end 4
            rw [pB_no (fun e => gn (e.1 x hxm))]
            exact ⟨rfl, S⟩
          ·
            have gy : rightE x := ⟨g15, by omega, by omega, by omega⟩
            refine RC.skip (RC.back ?_)
            refine RC.region rfl ?_
            refine RL.ev (.as (.bin rfl rfl rfl) (wi64 (y := ((i + 1 : Nat) : Int)) (by omega) (by omega))) rfl rfl ?_
            refine RL.ev (.move rfl) rfl rfl ?_
            exact RL.nil (fun a ka => ⟨i + 1, ⟨⟨by omega, (right_step hx).2 ⟨hp, gy⟩⟩, S⟩, by omega, ka.keep (keep_of (by repeat (first | exact trivial | refine And.intro rfl ?_)))⟩)
  ·
    obtain rfl : i = l.length := (by omega)
    rw [List.take_length] at hp
    refine RC.exit rfl (RC.back ?_)
    refine RC.seq ?_
    refine RC.region rfl ?_
    refine RL.ev (.move rfl) rfl rfl ?_
    refine RL.ev (.len sl22 rfl) rfl rfl ?_
    refine RL.ev (.bin rfl rfl rfl) rfl rfl ?_
    refine RL.ev (.assign rfl) rfl rfl ?_
    refine RL.nil (RC.back ?_)
    refine RC.done (rs := [.tmp 2]) (vs := [_]) rfl rfl ⟨rfl, trivial⟩ ?_
    -- end 5
    exact ⟨congrArg Value.bool (by rw [Bool.eq_iff_iff, decide_eq_true_iff, pB_iff]; exact ⟨fun h => ⟨hp, by omega⟩, fun h => by have := h.2; omega⟩), S⟩
theorem count_step {l : List Int} {i : Nat} {x : Int} (h : l[i]? = some x) (v : Int) : (l.take (i + 1)).count v = (l.take i).count v + if x = v then 1 else 0 := by
  rw [List.take_add_one, h, List.count_append]
  by_cases e : x = v
  · subst e; simp
  · rw [if_neg e]; simp [List.count_cons, e]
theorem c_has (l : List Int) (a : Option Addr) (c m : Nat) (hm : m = l.length) (v : Int) (w : World) (hl : Sl w a 1 (l.map fun x => [i6 x])) (hb : l.length ≤ 1000000) :
    FC Try.prog 24 [.slice a m c, .int .i64 v] w (Val (.int .i64 (l.count v : Int)) w) := by
  subst hm
  refine FC.intro Try.func24 rfl Try.ntmps24 rfl ?_
  have S := Sub.refl w
  refine RC.seq ?_
  refine RC.region rfl ?_
  refine RL.ev (.assign rfl) rfl rfl ?_
  refine RL.nil (RC.back ?_)
  refine RC.seq ?_
  refine RC.region rfl ?_
  refine RL.ev (.assign rfl) rfl rfl ?_
  refine RL.nil (RC.back ?_)
  refine RC.seq ?_
  refine RC.seq ?_
  refine RC.region rfl ?_
  refine RL.ev (.move rfl) rfl rfl ?_
  refine RL.ev (.len sl23 rfl) rfl rfl ?_
  refine RL.ev (.move rfl) rfl rfl ?_
  refine RL.nil (RC.back ?_)
  refine RC.block ?_
  refine RC.loop (α := Nat × Nat) (fun x => [(1, .int .i64 v), (5, .int .i64 (x.2 : Int)), (8, .slice a l.length c), (9, .int .i64 (l.length : Int)), (10, .int .i64 (x.1 : Int))]) (fun x w1 => (x.1 ≤ l.length ∧ x.2 = (l.take x.1).count v) ∧ Sub w w1) (fun x => l.length - x.1) (0, 0) (keep_of (by repeat (first | exact trivial | refine And.intro rfl ?_))) (⟨⟨Nat.zero_le _, by simp⟩, S⟩) (fun x w1 hJ => ?_)
  obtain ⟨i, n⟩ := x; obtain ⟨⟨hi, hn⟩, S⟩ := hJ; simp only [] at hi hn
  refine RC.seq ?_
  refine RC.region rfl ?_
  refine RL.ev (.bin rfl rfl rfl) rfl rfl ?_
  refine RL.nil (RC.back ?_)
  refine RC.seq ?_
  refine RC.cond_dec rfl (fun h2 => ?_) (fun h2 => ?_)
  ·
    obtain ⟨x, hx⟩ := getSome (l := l) (i := i) (by omega)
    have hst := count_step hx v
    have hcl := List.count_le_length (a := v) (l := l.take i)
    rw [List.length_take] at hcl
    refine RC.skip (RC.back ?_)
    refine RC.seq ?_
    refine RC.block ?_
    refine RC.seq ?_
    refine RC.region rfl ?_
    refine RL.ev (.indexS sl23 rfl rfl (by omega) (hl.is (i := 0) (by simp only [List.length_map, List.length_cons, List.length_nil]; omega))) rfl rfl ?_
    refine RL.ev (.load1 sh3 rfl ((hl.sub S).one (enc := i6) (i := i) hx)) rfl rfl ?_
    refine RL.ev (.assign rfl) rfl rfl ?_
    refine RL.nil (RC.back ?_)
    refine RC.seq ?_
    refine RC.region rfl ?_
    refine RL.ev (.move rfl) rfl rfl ?_
    refine RL.ev (.move rfl) rfl rfl ?_
    refine RL.ev (.bin rfl rfl rfl) rfl rfl ?_
    refine RL.nil (RC.back ?_)
    refine RC.cond_dec rfl (fun h3 => ?_) (fun h3 => ?_)
    ·
      rw [if_pos h3] at hst
      refine RC.region rfl ?_
      refine RL.ev (.move rfl) rfl rfl ?_
      refine RL.ev (.as (.bin rfl rfl rfl) (wi64 (y := ((n + 1 : Nat) : Int)) (by omega) (by omega))) rfl rfl ?_
      refine RL.ev (.assign rfl) rfl rfl ?_
      refine RL.nil (RC.back ?_)
      refine RC.region rfl ?_
      refine RL.ev (.as (.bin rfl rfl rfl) (wi64 (y := ((i + 1 : Nat) : Int)) (by omega) (by omega))) rfl rfl ?_
      refine RL.ev (.move rfl) rfl rfl ?_
      exact RL.nil (fun a ka => ⟨(i + 1, n + 1), ⟨⟨by omega, by show n + 1 = (l.take (i + 1)).count v; omega⟩, S⟩, by omega, ka.keep (keep_of (by repeat (first | exact trivial | refine And.intro rfl ?_)))⟩)
    ·
      rw [if_neg h3] at hst
      refine RC.skip (RC.back ?_)
      refine RC.region rfl ?_
      refine RL.ev (.as (.bin rfl rfl rfl) (wi64 (y := ((i + 1 : Nat) : Int)) (by omega) (by omega))) rfl rfl ?_
      refine RL.ev (.move rfl) rfl rfl ?_
      exact RL.nil (fun a ka => ⟨(i + 1, n), ⟨⟨by omega, by show n = (l.take (i + 1)).count v; omega⟩, S⟩, by omega, ka.keep (keep_of (by repeat (first | exact trivial | refine And.intro rfl ?_)))⟩)
  ·
    obtain rfl : i = l.length := (by omega)
    rw [List.take_length] at hn
    refine RC.exit rfl (RC.back ?_)
    refine RC.seq ?_
    refine RC.region rfl ?_
    refine RL.ev (.move rfl) rfl rfl ?_
    refine RL.ev (.assign rfl) rfl rfl ?_
    refine RL.nil (RC.back ?_)
    refine RC.done (rs := [.tmp 4]) (vs := [_]) rfl rfl ⟨rfl, trivial⟩ ?_
    -- end 1
    rw [← hn]
    exact ⟨rfl, S⟩
theorem perm_count {l : List En} {o : List Int} (h : permH l o) {i : Nat} (hi : i < l.length) : o.count (i : Int) = 1 := by
  rw [List.Nodup.count (perm_once h.1 h.2).2, if_pos (h.2 i hi)]
set_option maxHeartbeats 1000000 in
theorem c_ref20Fits (l : List En) (la : Option Addr) (lc m : Nat) (hm : m = l.length) (hlen : l.length ≤ 1000) (o : List Int) (oa : Option Addr) (oc n : Nat) (hn : n = o.length) (hoc : o.length ≤ oc) (hol : o.length ≤ 1000) (w : World) (hl : Sl w la 10 (l.map En.cells)) (ho : Sl w oa 1 (o.map fun x => [i6 x])) :
    FC Try.prog 10 [.slice la m lc, .slice oa n oc] w (Val (.int .i64 (fitsM l o)) w) := by
  subst hm hn
  refine FC.intro Try.func10 rfl Try.ntmps10 rfl ?_
  have S := Sub.refl w
  refine RC.seq ?_
  refine RC.region rfl ?_
  refine RL.ev (.assign rfl) rfl rfl ?_
  refine RL.nil (RC.back ?_)
  refine RC.seq ?_
  refine RC.seq ?_
  refine RC.region rfl ?_
  refine RL.ev (.move rfl) rfl rfl ?_
  refine RL.call rfl ok8 (c_ref20Right l la lc _ rfl w (hl.sub S) (by omega)) rfl rfl ?_
  rintro _ w1 ⟨rfl, s2⟩
  have S := S.trans s2
  refine RL.ev (.not rfl) rfl rfl ?_
  refine RL.ev (.move rfl) rfl rfl ?_
  refine RL.splitB 18 rfl (fun h3 => ?_) (fun h3 => ?_)
  ·
    have g18 : ¬ rightH l := (fun e => by rw [pB_yes e] at h3; cases h3)
    refine RL.off rfl rfl ?_
    refine RL.off rfl rfl ?_
    refine RL.off rfl rfl ?_
    refine RL.off rfl rfl ?_
    refine RL.off rfl rfl ?_
    refine RL.ev (.pick_t rfl rfl) rfl rfl ?_
    refine RL.nil (RC.back ?_)
    refine RC.cond_t rfl ?_
    refine RC.seq ?_
    refine RC.region rfl ?_
    refine RL.ev (.assign rfl) rfl rfl ?_
    refine RL.nil (RC.back ?_)
    refine RC.done (rs := [.tmp 4]) (vs := [_]) rfl rfl ⟨rfl, trivial⟩ ?_
    -- end 1
    rw [fitsM_no (fun e => g18 e.1)]
    exact ⟨rfl, S⟩
  ·
    have g18 : rightH l := (by have q := h3; rw [Bool.not_eq_false'] at q; exact pB_iff.1 q)
    refine RL.ev (.move rfl) rfl rfl ?_
    refine RL.ev (.len sl23 rfl) rfl rfl ?_
    refine RL.ev (.move rfl) rfl rfl ?_
    refine RL.ev (.len sl22 rfl) rfl rfl ?_
    refine RL.ev (.bin rfl rfl rfl) rfl rfl ?_
    refine RL.ev (.pick_f rfl rfl) rfl rfl ?_
    refine RL.nil (RC.back ?_)
    refine RC.cond_dec rfl (fun h4 => ?_) (fun h4 => ?_)
    ·
      have g24 : ¬ o.length = l.length := (by omega)
      refine RC.seq ?_
      refine RC.region rfl ?_
      refine RL.ev (.assign rfl) rfl rfl ?_
      refine RL.nil (RC.back ?_)
      refine RC.done (rs := [.tmp 4]) (vs := [_]) rfl rfl ⟨rfl, trivial⟩ ?_
      -- end 2
      rw [fitsM_no (fun e => g24 e.2.1)]
      exact ⟨rfl, S⟩
    ·
      have g24 : o.length = l.length := (by omega)
      refine RC.skip (RC.back ?_)
      refine RC.seq ?_
      refine RC.seq ?_
      refine RC.region rfl ?_
      refine RL.ev (.move rfl) rfl rfl ?_
      refine RL.ev (.len sl22 rfl) rfl rfl ?_
      refine RL.ev (.move rfl) rfl rfl ?_
      refine RL.nil (RC.back ?_)
      refine RC.block ?_
      refine RC.loop (α := Nat) (fun i => [(0, .slice la l.length lc), (1, .slice oa o.length oc), (26, .int .i64 (l.length : Int)), (27, .int .i64 (i : Int))]) (fun i w5 => (i ≤ l.length ∧ ∀ j : Nat, j < i → (j : Int) ∈ o) ∧ Sub w w5) (fun i => l.length - i) 0 (keep_of (by repeat (first | exact trivial | refine And.intro rfl ?_))) (⟨⟨Nat.zero_le _, fun j h => absurd h (Nat.not_lt_zero _)⟩, S⟩) (fun i w5 hJ => ?_)
      obtain ⟨⟨hi, hall⟩, S⟩ := hJ
      refine RC.seq ?_
      refine RC.region rfl ?_
      refine RL.ev (.bin rfl rfl rfl) rfl rfl ?_
      refine RL.nil (RC.back ?_)
      refine RC.seq ?_
      refine RC.cond_dec rfl (fun h6 => ?_) (fun h6 => ?_)
      ·
        have hil : i < l.length := (by omega)
        refine RC.skip (RC.back ?_)
        refine RC.seq ?_
        refine RC.block ?_
        refine RC.seq ?_
        refine RC.region rfl ?_
        refine RL.ev (.move rfl) rfl rfl ?_
        refine RL.ev (.assign rfl) rfl rfl ?_
        refine RL.nil (RC.back ?_)
        refine RC.seq ?_
        refine RC.region rfl ?_
        refine RL.ev (.move rfl) rfl rfl ?_
        refine RL.ev (.move rfl) rfl rfl ?_
        refine RL.call rfl ok24 (c_has o oa oc _ rfl (i : Int) w5 (ho.sub S) (by omega)) rfl rfl ?_
        rintro _ w7 ⟨rfl, s8⟩
        have S := S.trans s8
        refine RL.ev (.bin rfl rfl rfl) rfl rfl ?_
        refine RL.nil (RC.back ?_)
        refine RC.cond_dec rfl (fun h9 => ?_) (fun h9 => ?_)
        ·
          have g33 : ¬ o.count (i : Int) = 1 := (by omega)
          refine RC.seq ?_
          refine RC.region rfl ?_
          refine RL.ev (.assign rfl) rfl rfl ?_
          refine RL.nil (RC.back ?_)
          refine RC.done (rs := [.tmp 4]) (vs := [_]) rfl rfl ⟨rfl, trivial⟩ ?_
          -- end 3
          rw [fitsM_no (fun e => g33 (perm_count e.2 hil))]
          exact ⟨rfl, S⟩
        ·
          have g33 : (i : Int) ∈ o := (List.count_pos_iff.1 (by omega))
          refine RC.skip (RC.back ?_)
          refine RC.region rfl ?_
          refine RL.ev (.as (.bin rfl rfl rfl) (wi64 (y := ((i + 1 : Nat) : Int)) (by omega) (by omega))) rfl rfl ?_
          refine RL.ev (.move rfl) rfl rfl ?_
          exact RL.nil (fun a ka => ⟨i + 1, ⟨⟨by omega, fun q hq => by rcases Nat.lt_or_eq_of_le (Nat.le_of_lt_succ hq) with h | h; exact hall q h; rw [h]; exact g33⟩, S⟩, by omega, ka.keep (keep_of (by repeat (first | exact trivial | refine And.intro rfl ?_)))⟩)
      ·
        obtain rfl : i = l.length := (by omega)
        have hpm : permH l o := ⟨g24, hall⟩
        obtain ⟨hrng, hnd⟩ := perm_once g24 hall
        refine RC.exit rfl (RC.back ?_)
        refine RC.seq ?_
        refine RC.seq ?_
        refine RC.region rfl ?_
        refine RL.ev (.move rfl) rfl rfl ?_
        refine RL.ev (.len sl23 rfl) rfl rfl ?_
        refine RL.ev (.move rfl) rfl rfl ?_
        refine RL.nil (RC.back ?_)
        refine RC.block ?_
        refine RC.loop (α := Nat) (fun i => [(0, .slice la l.length lc), (1, .slice oa o.length oc), (35, .slice oa o.length oc), (36, .int .i64 (o.length : Int)), (37, .int .i64 (i : Int))]) (fun i w10 => (i ≤ o.length ∧ ∀ a b x y, a < i → a < b → o[a]? = some x → o[b]? = some y → ¬ laterP l x y) ∧ Sub w w10) (fun i => o.length - i) 0 (keep_of (by repeat (first | exact trivial | refine And.intro rfl ?_))) (⟨⟨Nat.zero_le _, fun a b x y h => absurd h (Nat.not_lt_zero _)⟩, S⟩) (fun i w10 hJ => ?_)
        obtain ⟨⟨hi, hft⟩, S⟩ := hJ
        refine RC.seq ?_
        refine RC.region rfl ?_
        refine RL.ev (.bin rfl rfl rfl) rfl rfl ?_
        refine RL.nil (RC.back ?_)
        refine RC.seq ?_
        refine RC.cond_dec rfl (fun h11 => ?_) (fun h11 => ?_)
        ·
          obtain ⟨x, hx⟩ := getSome (l := o) (i := i) (by omega)
          have hxr := hrng x (List.mem_of_getElem? hx)
          obtain ⟨xn, rfl⟩ := Int.eq_ofNat_of_zero_le hxr.1
          obtain ⟨ex, hex⟩ := getSome (l := l) (i := xn) (by omega)
          have hsd := slDropM ho (i + 1) hoc
          refine RC.skip (RC.back ?_)
          refine RC.seq ?_
          refine RC.block ?_
          refine RC.seq ?_
          refine RC.region rfl ?_
          refine RL.ev (.move rfl) rfl rfl ?_
          refine RL.ev (.indexS sl23 rfl rfl (by omega) (ho.is (i := 0) (by simp only [List.length_map, List.length_cons, List.length_nil]; omega))) rfl rfl ?_
          refine RL.ev (.load1 sh3 rfl ((ho.sub S).one (enc := i6) (i := i) hx)) rfl rfl ?_
          refine RL.ev (.assign rfl) rfl rfl ?_
          refine RL.ev (.assign rfl) rfl rfl ?_
          refine RL.nil (RC.back ?_)
          refine RC.seq ?_
          refine RC.region rfl ?_
          refine RL.ev (.move rfl) rfl rfl ?_
          refine RL.ev (.move rfl) rfl rfl ?_
          refine RL.ev (.as (.bin rfl rfl rfl) (wi64 (y := ((i + 1 : Nat) : Int)) (by omega) (by omega))) rfl rfl ?_
          refine RL.ev (.as (v' := .slice (if oc = i + 1 then oa else oa.map (·.add ((i + 1) * 1))) (o.drop (i + 1)).length (oc - (i + 1))) (.sliceLo sl23 rfl rfl (by omega)) (by rw [List.length_drop]; rfl)) rfl rfl ?_
          refine RL.ev (.len sl23 rfl) rfl rfl ?_
          refine RL.ev (.move rfl) rfl rfl ?_
          refine RL.nil (RC.back ?_)
          refine RC.block ?_
          refine RC.loop (α := Nat) (fun j => [(0, .slice la l.length lc), (1, .slice oa o.length oc), (7, .int .i64 (xn : Int)), (35, .slice oa o.length oc), (36, .int .i64 (o.length : Int)), (37, .int .i64 (i : Int)), (45, .slice (if oc = i + 1 then oa else oa.map (·.add ((i + 1) * 1))) (o.drop (i + 1)).length (oc - (i + 1))), (46, .int .i64 ((o.drop (i + 1)).length : Int)), (47, .int .i64 (j : Int))]) (fun j w12 => (j ≤ (o.drop (i + 1)).length ∧ ∀ b y, b < j → (o.drop (i + 1))[b]? = some y → ¬ laterP l (xn : Int) y) ∧ Sub w w12) (fun j => (o.drop (i + 1)).length - j) 0 (keep_of (by repeat (first | exact trivial | refine And.intro rfl ?_))) (⟨⟨Nat.zero_le _, fun b y h => absurd h (Nat.not_lt_zero _)⟩, S⟩) (fun j w12 hJ => ?_)
          obtain ⟨⟨hj, hin⟩, S⟩ := hJ
          refine RC.seq ?_
          refine RC.region rfl ?_
          refine RL.ev (.bin rfl rfl rfl) rfl rfl ?_
          refine RL.nil (RC.back ?_)
          refine RC.seq ?_
          refine RC.cond_dec rfl (fun h13 => ?_) (fun h13 => ?_)
          ·
            have hdl : (o.drop (i + 1)).length ≤ 1000 := (by rw [List.length_drop]; omega)
            obtain ⟨y, hy⟩ := getSome (l := o.drop (i + 1)) (i := j) (by omega)
            have hyo : o[i + 1 + j]? = some y := (by rw [← List.getElem?_drop]; exact hy)
            have hyr := hrng y (List.mem_of_getElem? hyo)
            obtain ⟨yn, rfl⟩ := Int.eq_ofNat_of_zero_le hyr.1
            obtain ⟨ey, hey⟩ := getSome (l := l) (i := yn) (by omega)
            refine RC.skip (RC.back ?_)
            refine RC.seq ?_
            refine RC.block ?_
            refine RC.seq ?_
            refine RC.region rfl ?_
            refine RL.ev (.indexS sl23 rfl rfl (by omega) (hsd.is (i := 0) (by simp only [List.length_map, List.length_cons, List.length_nil]; omega))) rfl rfl ?_
            refine RL.ev (.load1 sh3 rfl ((hsd.sub S).one (enc := i6) (i := j) hy)) rfl rfl ?_
            refine RL.ev (.assign rfl) rfl rfl ?_
            refine RL.nil (RC.back ?_)
            refine RC.seq ?_
            refine RC.draw rfl mxo (by kernel_rfl) ?_
            refine RQ.ev (.move rfl) rfl rfl ?_
            refine RQ.ev (.move rfl) rfl rfl ?_
            refine RQ.ev (.indexS sl22 rfl rfl (by omega) (hl.is (i := 0) (by simp only [List.length_map, List.length_cons, List.length_nil]; omega))) rfl rfl ?_
            refine RQ.ev (.fieldA fo48_4 rfl) rfl rfl ?_
            refine RQ.ev (.load1 sh3 rfl ((hl.sub S).cell (enc := En.cells) (j := 9) hey rfl)) rfl rfl ?_
            refine RQ.ev (.move rfl) rfl rfl ?_
            refine RQ.ev (.move rfl) rfl rfl ?_
            refine RQ.ev (.indexS sl22 rfl rfl (by omega) (hl.is (i := 0) (by simp only [List.length_map, List.length_cons, List.length_nil]; omega))) rfl rfl ?_
            refine RQ.ev (.fieldA fo48_3 rfl) rfl rfl ?_
            refine RQ.ev (.load1 sh3 rfl ((hl.sub S).cell (enc := En.cells) (j := 8) hex rfl)) rfl rfl ?_
            refine RQ.ev (.bin rfl rfl rfl) rfl rfl ?_
            refine RQ.nil (fun w14 s15 => RC.back ?_)
            have S := S.trans s15
            refine RC.cond_dec rfl (fun h16 => ?_) (fun h16 => ?_)
            ·
              have h61 : laterP l (xn : Int) (yn : Int) := (by unfold laterP; rw [enAt_get hex, enAt_get hey]; exact h16)
              refine RC.seq ?_
              refine RC.region rfl ?_
              refine RL.ev (.assign rfl) rfl rfl ?_
              refine RL.nil (RC.back ?_)
              refine RC.done (rs := [.tmp 4]) (vs := [_]) rfl rfl ⟨rfl, trivial⟩ ?_
              -- end 4
              rw [fitsM_time ⟨g18, hpm⟩ (fun e => by have q := List.pairwise_iff_getElem.1 e i (i + 1 + j) (lt_of_get hx) (lt_of_get hyo) (by omega); rw [getElem_of hx, getElem_of hyo] at q; exact q h61)]
              exact ⟨rfl, S⟩
            ·
              have h61 : ¬ laterP l (xn : Int) (yn : Int) := (by unfold laterP; rw [enAt_get hex, enAt_get hey]; exact h16)
              refine RC.skip (RC.back ?_)
              refine RC.region rfl ?_
              refine RL.ev (.as (.bin rfl rfl rfl) (wi64 (y := ((j + 1 : Nat) : Int)) (by omega) (by omega))) rfl rfl ?_
              refine RL.ev (.move rfl) rfl rfl ?_
              exact RL.nil (fun a ka => ⟨j + 1, ⟨⟨by omega, fun b z hb hz => by rcases Nat.lt_or_eq_of_le (Nat.le_of_lt_succ hb) with h | h; exact hin b z h hz; subst h; rw [hy] at hz; cases hz; exact h61⟩, S⟩, by omega, ka.keep (keep_of (by repeat (first | exact trivial | refine And.intro rfl ?_)))⟩)
          ·
            obtain rfl : j = (o.drop (i + 1)).length := (by omega)
            refine RC.exit rfl (RC.back ?_)
            refine RC.region rfl ?_
            refine RL.ev (.as (.bin rfl rfl rfl) (wi64 (y := ((i + 1 : Nat) : Int)) (by omega) (by omega))) rfl rfl ?_
            refine RL.ev (.move rfl) rfl rfl ?_
            exact RL.nil (fun a ka => ⟨i + 1, ⟨⟨by omega, fun a b z u ha hab hz hu => by rcases Nat.lt_or_eq_of_le (Nat.le_of_lt_succ ha) with h | h; exact hft a b z u h hab hz hu; subst h; rw [hx] at hz; cases hz; have hul := lt_of_get hu; exact hin (b - (a + 1)) u (by rw [List.length_drop]; omega) (by rw [List.getElem?_drop, ← hu]; congr 1; omega)⟩, S⟩, by omega, ka.keep (keep_of (by repeat (first | exact trivial | refine And.intro rfl ?_)))⟩)
        ·
          obtain rfl : i = o.length := (by omega)
          have hft : fitsT l o := List.pairwise_iff_getElem.2 (fun a b ha hb hab => hft a b _ _ ha hab (List.getElem?_eq_getElem ha) (List.getElem?_eq_getElem hb))
          have h0F : Ft (fun _ => False) (fun u => MoR u p0 m0) w10 := m0_F _ (fun k hk => hk.elim)
          refine RC.exit rfl (RC.back ?_)
          refine RC.seq ?_
          refine RC.region rfl ?_
          refine RL.ev (.as (v' := moV p0 m0) (.buildS ze38 pl38 rfl rfl) (by rfl)) rfl rfl ?_
          refine RL.alloc ze38 rfl rfl (fun b_10 w_10 e_10 z_10 hb_10 s_10 => ?_)
          have ge_10 := S.le e_10
          have d_h0F_b_10 := h0F.neNew e_10
          have S := S.trans s_10
          have h0F := h0F.sub s_10
          refine RL.store sh38 rfl rfl rfl hb_10 (by exact Nat.le_of_ble_eq_true rfl) (by rfl) rfl (fun w17 z17 hb_10 a17 => ?_)
          have S := S.upd a17 ge_10
          have h0F := h0F.updD a17 d_h0F_b_10
          have hb_10 : Has w17 b_10 ([.slice none 0 0, .slice none 0 0, .slice none 0 0, .slice none 0 0]) _ := hb_10.now (by kernel_rfl)
          refine RL.nil (RC.back ?_)
          refine RC.seq ?_
          refine RC.region rfl ?_
          refine RL.ev (.as (v' := .agg fullR.cells.toArray) (.buildS ze43 pl43 rfl rfl) (by rfl)) rfl rfl ?_
          refine RL.alloc ze43 rfl rfl (fun b_11 w_11 e_11 z_11 hb_11 s_11 => ?_)
          have ge_11 := S.le e_11
          have n_10__11 := hb_10.ne e_11
          have d_h0F_b_11 := h0F.neNew e_11
          have S := S.trans s_11
          have h0F := h0F.sub s_11
          have hb_10 := hb_10.sub s_11
          refine RL.store sh43 rfl rfl rfl hb_11 (by exact Nat.le_of_ble_eq_true rfl) (by rfl) rfl (fun w18 z18 hb_11 a18 => ?_)
          have S := S.upd a18 ge_11
          have h0F := h0F.updD a18 d_h0F_b_11
          have hb_10 := hb_10.upd a18 n_10__11
          have hb_11 : Has w18 b_11 (fullR.cells) _ := hb_11.now (by kernel_rfl)
          refine RL.nil (RC.back ?_)
          refine RC.seq ?_
          refine RC.seq ?_
          refine RC.region rfl ?_
          refine RL.ev (.move rfl) rfl rfl ?_
          refine RL.ev (.len sl23 rfl) rfl rfl ?_
          refine RL.ev (.move rfl) rfl rfl ?_
          refine RL.nil (RC.back ?_)
          refine RC.block ?_
          refine RC.loop (α := Nat × Mo × Ph × (Nat → Prop)) (fun x => [(0, .slice la l.length lc), (1, .slice oa o.length oc), (10, .pointer (some ⟨b_10, 0, none⟩)), (11, .pointer (some ⟨b_11, 0, none⟩)), (66, .slice oa o.length oc), (67, .int .i64 (o.length : Int)), (68, .int .i64 (x.1 : Int))]) (fun x w19 => (x.1 ≤ o.length ∧ rightM x.2.1 ∧ MoS x.2.2.1 x.2.1 ∧ playM m0 ((o.take x.1).map (enAt l)) = some x.2.1) ∧ Has w19 b_11 fullR.cells 43 ∧ Has w19 b_10 [.slice x.2.2.1.a1 x.2.1.map.length x.2.2.1.c1, .slice x.2.2.1.a2 x.2.1.tab.length x.2.2.1.c2, .slice x.2.2.1.a3 x.2.1.row.length x.2.2.1.c3, .slice x.2.2.1.a4 x.2.1.heap.length x.2.2.1.c4] 38 ∧ Ft x.2.2.2 (fun u => MoR u x.2.2.1 x.2.1) w19 ∧ (∀ k, x.2.2.2 k → k ≠ b_11) ∧ (∀ k, x.2.2.2 k → k ≠ b_10) ∧ Sub w w19) (fun x => o.length - x.1) (0, m0, p0, fun _ => False) (keep_of (by repeat (first | exact trivial | refine And.intro rfl ?_))) (⟨⟨Nat.zero_le _, m0_right, m0_S, rfl⟩, hb_11, hb_10, h0F, fun k hk => hk.elim, fun k hk => hk.elim, S⟩) (fun x w19 hJ => ?_)
          obtain ⟨i, cur, p', M'⟩ := x; obtain ⟨⟨hi, hRc, hsc, hplay⟩, hb_11, hb_10, hF, d1, d2, S⟩ := hJ; simp only [] at hi hRc hsc hplay hb_10 hF d1 d2
          refine RC.seq ?_
          refine RC.region rfl ?_
          refine RL.ev (.bin rfl rfl rfl) rfl rfl ?_
          refine RL.nil (RC.back ?_)
          refine RC.seq ?_
          refine RC.cond_dec rfl (fun h20 => ?_) (fun h20 => ?_)
          ·
            obtain ⟨x, hx⟩ := getSome (l := o) (i := i) (by omega)
            have hxr := hrng x (List.mem_of_getElem? hx)
            have hst := playM_step hx hplay
            obtain ⟨xn, rfl⟩ := Int.eq_ofNat_of_zero_le hxr.1
            obtain ⟨y, hy⟩ := getSome (l := l) (i := xn) (by omega)
            rw [enAt_get hy] at hst
            have hyr : rightE y := g18.1 y (List.mem_of_getElem? hy)
            refine RC.skip (RC.back ?_)
            refine RC.seq ?_
            refine RC.block ?_
            refine RC.seq ?_
            refine RC.region rfl ?_
            refine RL.ev (.indexS sl23 rfl rfl (by omega) (ho.is (i := 0) (by simp only [List.length_map, List.length_cons, List.length_nil]; omega))) rfl rfl ?_
            refine RL.ev (.load1 sh3 rfl ((ho.sub S).one (enc := i6) (i := i) hx)) rfl rfl ?_
            refine RL.ev (.assign rfl) rfl rfl ?_
            refine RL.nil (RC.back ?_)
            refine RC.seq ?_
            refine RC.seq ?_
            refine RC.draw rfl mxo (by kernel_rfl) ?_
            refine RQ.ev (.move rfl) rfl rfl ?_
            refine RQ.ev (.move rfl) rfl rfl ?_
            refine RQ.ev (.indexS sl22 rfl rfl (by omega) (hl.is (i := 0) (by simp only [List.length_map, List.length_cons, List.length_nil]; omega))) rfl rfl ?_
            refine RQ.ev (.fieldA fo48_2 rfl) rfl rfl ?_
            refine RQ.ev (.loadR (y.res.cells) sh43 rfl (rowPart ((hl.sub S).rowAt (enc := En.cells) (i := xn) hy) (pre := [.int .i64 y.proc, .int .i64 y.op.box, .int .i64 y.op.kind, .int .i64 y.op.a, .int .i64 y.op.b]) (mid := y.res.cells) (post := [.int .i64 y.fr, .int .i64 y.to]) rfl) rfl) rfl rfl ?_
            refine RQ.ev (.loadR (fullR.cells) sh43 rfl hb_11.row rfl) rfl rfl ?_
            refine RQ.ev (.eqS (xs := y.res.cells) (ys := fullR.cells) fk43 eg43 sh43 rfl rfl rfl rfl rfl) rfl rfl ?_
            refine RQ.nil (fun w21 s22 => RC.back ?_)
            have S := S.trans s22
            have hb_11 := hb_11.sub s22
            have hb_10 := hb_10.sub s22
            have hF := hF.sub s22
            refine RC.cond rfl (fun h23 => ?_) (fun h23 => ?_)
            ·
              have g78 : y.res = fullR := (by have q := h23; rw [eqL_res, decide_eq_true_iff] at q; exact q)
              have ha : ansM cur y = (cur, true) := (by unfold ansM; rw [if_pos g78])
              rw [ha, if_pos rfl] at hst
              refine RC.exit rfl (RC.back ?_)
              refine RC.region rfl ?_
              refine RL.ev (.as (.bin rfl rfl rfl) (wi64 (y := ((i + 1 : Nat) : Int)) (by omega) (by omega))) rfl rfl ?_
              refine RL.ev (.move rfl) rfl rfl ?_
              exact RL.nil (fun a ka => ⟨(i + 1, cur, p', M'), ⟨⟨by omega, hRc, hsc, hst⟩, hb_11, hb_10, hF, d1, d2, S⟩, by omega, ka.keep (keep_of (by repeat (first | exact trivial | refine And.intro rfl ?_)))⟩)
            ·
              have g78 : ¬ y.res = fullR := (by have q := h23; rw [eqL_res, decide_eq_false_iff_not] at q; exact q)
              have ha : ansM cur y = ((doM cur y.op).1, decide ((doM cur y.op).2 = y.res)) := (by unfold ansM; rw [if_neg g78])
              rw [ha] at hst
              refine RC.skip (RC.back ?_)
              refine RC.seq ?_
              refine RC.drawD (fun k => False) [8] w21.heap.size 9 rfl rfl mxo (fun w24 s25 => ?_)
              have hNN : ∀ k, ((False) ∨ w21.heap.size ≤ k) → w.heap.size ≤ k := fun k e => e.elim (fun e => e.elim) (fun e => Nat.le_trans S.size e)
              have ent_S := S.size
              have hN0 : ∀ k, w21.heap.size ≤ k → w.heap.size ≤ k := fun k e => Nat.le_trans S.size e
              have ltD_b_11 := hb_11.lt
              have ltD_b_10 := hb_10.lt
              have ltD_hF := fun k hk => (hF.ge k hk).2
              have szD := Nat.le_refl w21.heap.size
              have S := S.trans s25
              have hb_11 := hb_11.sub s25
              have hb_10 := hb_10.sub s25
              have hF := hF.sub s25
              have szD := Nat.le_trans szD s25.size
              refine RD.take 0 rfl (by kernel_rfl) (by kernel_rfl) (by kernel_rfl) (fun w' s' => .loadR ([.slice p'.a1 cur.map.length p'.c1, .slice p'.a2 cur.tab.length p'.c2, .slice p'.a3 cur.row.length p'.c3, .slice p'.a4 cur.heap.length p'.c4]) sh38 rfl (hb_10.step s' (fun e => e.elim (fun e => e.elim) (fun e => Nat.not_le.2 ltD_b_10 e))).row rfl) rfl rfl ?_
              refine RD.take 1 rfl (by kernel_rfl) (by kernel_rfl) (by kernel_rfl) (fun w' s' => .move rfl) rfl rfl ?_
              refine RD.take 2 rfl (by kernel_rfl) (by kernel_rfl) (by kernel_rfl) (fun w' s' => .move rfl) rfl rfl ?_
              refine RD.take 3 rfl (by kernel_rfl) (by kernel_rfl) (by kernel_rfl) (fun w' s' => .indexS sl22 rfl rfl (by omega) (hl.is (i := 0) (by simp only [List.length_map, List.length_cons, List.length_nil]; omega))) rfl rfl ?_
              refine RD.take 4 rfl (by kernel_rfl) (by kernel_rfl) (by kernel_rfl) (fun w' s' => .fieldA fo48_1 rfl) rfl rfl ?_
              refine RD.take 5 rfl (by kernel_rfl) (by kernel_rfl) (by kernel_rfl) (fun w' s' => .loadR (y.op.cells) sh40 rfl (rowPart ((hl.sub (S.agrN s' hNN)).rowAt (enc := En.cells) (i := xn) hy) (pre := [.int .i64 y.proc]) (mid := y.op.cells) (post := [.int .i64 y.res.e, .int .i64 y.res.a, .int .i64 y.res.b, .int .i64 y.fr, .int .i64 y.to]) rfl) rfl) rfl rfl ?_
              refine RD.all [6, 7] (by kernel_rfl) rfl (RDs.cons rfl ?_ (RDs.cons rfl ?_ (RDs.nil)))
              ·
                refine RL.call rfl ok16 (c_refDo p' cur hsc hRc y.op hyr.1 w24 M' hF) rfl rfl ?_
                rintro _ w26 ⟨s27, p2, M2, rfl, hs2, hF2, hup2⟩
                have d_hF2_b_11 := upNe hup2 d1 hb_11.lt
                have d_hF2_b_10 := upNe hup2 d2 hb_10.lt
                have S := S.trans s27
                have hb_11 := hb_11.sub s27
                have hb_10 := hb_10.sub s27
                have hF := hF.sub s27
                have szD := Nat.le_trans szD s27.size
                refine RD.back s27.agr ?_
                refine RD.all [7] (by kernel_rfl) rfl (RDs.cons rfl ?_ (RDs.nil))
                refine RL.alloc ze45 rfl rfl (fun b_14 w_14 e_14 z_14 hb_14 s_14 => ?_)
                have fr_b_14 : w21.heap.size ≤ b_14 := by rw [e_14]; exact szD
                have ge_14 := S.le e_14
                have n_11__14 := hb_11.ne e_14
                have n_10__14 := hb_10.ne e_14
                have d_hF_b_14 := hF.neNew e_14
                have d_hF2_b_14 := hF2.neNew e_14
                have S := S.trans s_14
                have hb_11 := hb_11.sub s_14
                have hb_10 := hb_10.sub s_14
                have hF := hF.sub s_14
                have szD := Nat.le_trans szD s_14.size
                have hF2 := hF2.sub s_14
                refine RD.back s_14.agr ?_
                refine RD.all [8] (by kernel_rfl) rfl (RDs.cons rfl ?_ (RDs.nil))
                refine RL.store sh45 rfl rfl rfl hb_14 (by exact Nat.le_of_ble_eq_true rfl) (by rfl) rfl (fun w28 z28 hb_14 a28 => ?_)
                have S := S.upd a28 ge_14
                have hb_11 := hb_11.upd a28 n_11__14
                have hb_10 := hb_10.upd a28 n_10__14
                have hF := hF.updD a28 d_hF_b_14
                have szD := Nat.le_trans szD a28.size
                have hF2 := hF2.updD a28 d_hF2_b_14
                have hb_14 : Has w28 b_14 (moT p2 (doM cur y.op).1 (doM cur y.op).2) _ := hb_14.now (by kernel_rfl)
                refine RD.backW rfl (a28.mono fun k _ e => e ▸ (.inr fr_b_14)) ?_
                refine RD.done (by kernel_rfl) (RC.back ?_)
                refine RC.seq ?_
                refine RC.seq ?_
                refine RC.draw rfl mxo (by kernel_rfl) ?_
                refine RQ.ev (.field0 fo45_1 rfl) rfl rfl ?_
                refine RQ.ev (.loadR ((doM cur y.op).2.cells) sh43 rfl (Has.row_at (pre := [.slice p2.a1 (doM cur y.op).1.map.length p2.c1, .slice p2.a2 (doM cur y.op).1.tab.length p2.c2, .slice p2.a3 (doM cur y.op).1.row.length p2.c3, .slice p2.a4 (doM cur y.op).1.heap.length p2.c4]) (post := []) hb_14 rfl) rfl) rfl rfl ?_
                refine RQ.ev (.move rfl) rfl rfl ?_
                refine RQ.ev (.move rfl) rfl rfl ?_
                refine RQ.ev (.indexS sl22 rfl rfl (by omega) (hl.is (i := 0) (by simp only [List.length_map, List.length_cons, List.length_nil]; omega))) rfl rfl ?_
                refine RQ.ev (.fieldA fo48_2 rfl) rfl rfl ?_
                refine RQ.ev (.loadR (y.res.cells) sh43 rfl (rowPart ((hl.sub S).rowAt (enc := En.cells) (i := xn) hy) (pre := [.int .i64 y.proc, .int .i64 y.op.box, .int .i64 y.op.kind, .int .i64 y.op.a, .int .i64 y.op.b]) (mid := y.res.cells) (post := [.int .i64 y.fr, .int .i64 y.to]) rfl) rfl) rfl rfl ?_
                refine RQ.ev (.neS (xs := (doM cur y.op).2.cells) (ys := y.res.cells) fk43 eg43 sh43 rfl rfl rfl rfl rfl) rfl rfl ?_
                refine RQ.nil (fun w29 s30 => RC.back ?_)
                have S := S.trans s30
                have hb_11 := hb_11.sub s30
                have hb_10 := hb_10.sub s30
                have hF := hF.sub s30
                have hF2 := hF2.sub s30
                have hb_14 := hb_14.sub s30
                refine RC.cond rfl (fun h31 => ?_) (fun h31 => ?_)
                ·
                  have g93 : ¬ (doM cur y.op).2 = y.res := (by have q := h31; rw [eqL_res] at q; simpa using q)
                  have hdead : playM m0 (o.map (enAt l)) = none := playM_dead (i := i + 1) (by rw [hst, decide_eq_false g93]; rfl)
                  refine RC.seq ?_
                  refine RC.region rfl ?_
                  refine RL.ev (.assign rfl) rfl rfl ?_
                  refine RL.nil (RC.back ?_)
                  refine RC.done (rs := [.tmp 4]) (vs := [_]) rfl rfl ⟨rfl, trivial⟩ ?_
                  -- end 5
                  rw [fitsM_play ⟨g18, hpm⟩ hft hdead]
                  exact ⟨rfl, S⟩
                ·
                  have g93 : (doM cur y.op).2 = y.res := (by have q := h31; rw [eqL_res] at q; simpa using q)
                  rw [decide_eq_true g93, if_pos rfl] at hst
                  refine RC.skip (RC.back ?_)
                  refine RC.region rfl ?_
                  refine RL.ev (.field0 fo45_0 rfl) rfl rfl ?_
                  refine RL.ev (.loadR ([.slice p2.a1 (doM cur y.op).1.map.length p2.c1, .slice p2.a2 (doM cur y.op).1.tab.length p2.c2, .slice p2.a3 (doM cur y.op).1.row.length p2.c3, .slice p2.a4 (doM cur y.op).1.heap.length p2.c4]) sh38 rfl (Has.row_at (pre := []) (post := (doM cur y.op).2.cells) hb_14 rfl) rfl) rfl rfl ?_
                  refine RL.store sh38 rfl rfl rfl hb_10 (by exact Nat.le_of_ble_eq_true rfl) (by rfl) rfl (fun w32 z32 hb_10 a32 => ?_)
                  have S := S.upd a32 ge_10
                  have hb_11 := hb_11.upd a32 n_10__11.symm
                  have hF := hF.updD a32 d2
                  have hF2 := hF2.updD a32 d_hF2_b_10
                  have hb_14 := hb_14.upd a32 n_10__14.symm
                  have hb_10 : Has w32 b_10 ([.slice p2.a1 (doM cur y.op).1.map.length p2.c1, .slice p2.a2 (doM cur y.op).1.tab.length p2.c2, .slice p2.a3 (doM cur y.op).1.row.length p2.c3, .slice p2.a4 (doM cur y.op).1.heap.length p2.c4]) _ := hb_10.now (by kernel_rfl)
                  refine RL.nil (RC.back ?_)
                  refine RC.region rfl ?_
                  refine RL.ev (.as (.bin rfl rfl rfl) (wi64 (y := ((i + 1 : Nat) : Int)) (by omega) (by omega))) rfl rfl ?_
                  refine RL.ev (.move rfl) rfl rfl ?_
                  exact RL.nil (fun a ka => ⟨(i + 1, (doM cur y.op).1, p2, M2), ⟨⟨by omega, rightM_do hRc hyr.1, hs2, hst⟩, hb_11, hb_10, hF2, d_hF2_b_11, d_hF2_b_10, S⟩, by omega, ka.keep (keep_of (by repeat (first | exact trivial | refine And.intro rfl ?_)))⟩)
              ·
                refine RL.alloc ze45 rfl rfl (fun b_14 w_14 e_14 z_14 hb_14 s_14 => ?_)
                have fr_b_14 : w21.heap.size ≤ b_14 := by rw [e_14]; exact szD
                have ge_14 := S.le e_14
                have n_11__14 := hb_11.ne e_14
                have n_10__14 := hb_10.ne e_14
                have d_hF_b_14 := hF.neNew e_14
                have S := S.trans s_14
                have hb_11 := hb_11.sub s_14
                have hb_10 := hb_10.sub s_14
                have hF := hF.sub s_14
                have szD := Nat.le_trans szD s_14.size
                refine RD.back s_14.agr ?_
                refine RD.all [6] (by kernel_rfl) rfl (RDs.cons rfl ?_ (RDs.nil))
                refine RL.call rfl ok16 (c_refDo p' cur hsc hRc y.op hyr.1 w_14 M' hF) rfl rfl ?_
                rintro _ w33 ⟨s34, p2, M2, rfl, hs2, hF2, hup2⟩
                have d_hF2_b_11 := upNe hup2 d1 hb_11.lt
                have d_hF2_b_10 := upNe hup2 d2 hb_10.lt
                have d_hF2_b_14 := upNe hup2 d_hF_b_14 hb_14.lt
                have S := S.trans s34
                have hb_11 := hb_11.sub s34
                have hb_10 := hb_10.sub s34
                have hF := hF.sub s34
                have szD := Nat.le_trans szD s34.size
                have hb_14 := hb_14.sub s34
                refine RD.back s34.agr ?_
                refine RD.all [8] (by kernel_rfl) rfl (RDs.cons rfl ?_ (RDs.nil))
                refine RL.store sh45 rfl rfl rfl hb_14 (by exact Nat.le_of_ble_eq_true rfl) (by rfl) rfl (fun w35 z35 hb_14 a35 => ?_)
                have S := S.upd a35 ge_14
                have hb_11 := hb_11.upd a35 n_11__14
                have hb_10 := hb_10.upd a35 n_10__14
                have hF := hF.updD a35 d_hF_b_14
                have szD := Nat.le_trans szD a35.size
                have hF2 := hF2.updD a35 d_hF2_b_14
                have hb_14 : Has w35 b_14 (moT p2 (doM cur y.op).1 (doM cur y.op).2) _ := hb_14.now (by kernel_rfl)
                refine RD.backW rfl (a35.mono fun k _ e => e ▸ (.inr fr_b_14)) ?_
                refine RD.done (by kernel_rfl) (RC.back ?_)
                refine RC.seq ?_
                refine RC.seq ?_
                refine RC.draw rfl mxo (by kernel_rfl) ?_
                refine RQ.ev (.field0 fo45_1 rfl) rfl rfl ?_
                refine RQ.ev (.loadR ((doM cur y.op).2.cells) sh43 rfl (Has.row_at (pre := [.slice p2.a1 (doM cur y.op).1.map.length p2.c1, .slice p2.a2 (doM cur y.op).1.tab.length p2.c2, .slice p2.a3 (doM cur y.op).1.row.length p2.c3, .slice p2.a4 (doM cur y.op).1.heap.length p2.c4]) (post := []) hb_14 rfl) rfl) rfl rfl ?_
                refine RQ.ev (.move rfl) rfl rfl ?_
                refine RQ.ev (.move rfl) rfl rfl ?_
                refine RQ.ev (.indexS sl22 rfl rfl (by omega) (hl.is (i := 0) (by simp only [List.length_map, List.length_cons, List.length_nil]; omega))) rfl rfl ?_
                refine RQ.ev (.fieldA fo48_2 rfl) rfl rfl ?_
                refine RQ.ev (.loadR (y.res.cells) sh43 rfl (rowPart ((hl.sub S).rowAt (enc := En.cells) (i := xn) hy) (pre := [.int .i64 y.proc, .int .i64 y.op.box, .int .i64 y.op.kind, .int .i64 y.op.a, .int .i64 y.op.b]) (mid := y.res.cells) (post := [.int .i64 y.fr, .int .i64 y.to]) rfl) rfl) rfl rfl ?_
                refine RQ.ev (.neS (xs := (doM cur y.op).2.cells) (ys := y.res.cells) fk43 eg43 sh43 rfl rfl rfl rfl rfl) rfl rfl ?_
                refine RQ.nil (fun w36 s37 => RC.back ?_)
                have S := S.trans s37
                have hb_11 := hb_11.sub s37
                have hb_10 := hb_10.sub s37
                have hF := hF.sub s37
                have hb_14 := hb_14.sub s37
                have hF2 := hF2.sub s37
                refine RC.cond rfl (fun h38 => ?_) (fun h38 => ?_)
                ·
                  have g93 : ¬ (doM cur y.op).2 = y.res := (by have q := h38; rw [eqL_res] at q; simpa using q)
                  have hdead : playM m0 (o.map (enAt l)) = none := playM_dead (i := i + 1) (by rw [hst, decide_eq_false g93]; rfl)
                  refine RC.seq ?_
                  refine RC.region rfl ?_
                  refine RL.ev (.assign rfl) rfl rfl ?_
                  refine RL.nil (RC.back ?_)
                  refine RC.done (rs := [.tmp 4]) (vs := [_]) rfl rfl ⟨rfl, trivial⟩ ?_
                  -- end 6
                  rw [fitsM_play ⟨g18, hpm⟩ hft hdead]
                  exact ⟨rfl, S⟩
                ·
                  have g93 : (doM cur y.op).2 = y.res := (by have q := h38; rw [eqL_res] at q; simpa using q)
                  rw [decide_eq_true g93, if_pos rfl] at hst
                  refine RC.skip (RC.back ?_)
                  refine RC.region rfl ?_
                  refine RL.ev (.field0 fo45_0 rfl) rfl rfl ?_
                  refine RL.ev (.loadR ([.slice p2.a1 (doM cur y.op).1.map.length p2.c1, .slice p2.a2 (doM cur y.op).1.tab.length p2.c2, .slice p2.a3 (doM cur y.op).1.row.length p2.c3, .slice p2.a4 (doM cur y.op).1.heap.length p2.c4]) sh38 rfl (Has.row_at (pre := []) (post := (doM cur y.op).2.cells) hb_14 rfl) rfl) rfl rfl ?_
                  refine RL.store sh38 rfl rfl rfl hb_10 (by exact Nat.le_of_ble_eq_true rfl) (by rfl) rfl (fun w39 z39 hb_10 a39 => ?_)
                  have S := S.upd a39 ge_10
                  have hb_11 := hb_11.upd a39 n_10__11.symm
                  have hF := hF.updD a39 d2
                  have hb_14 := hb_14.upd a39 n_10__14.symm
                  have hF2 := hF2.updD a39 d_hF2_b_10
                  have hb_10 : Has w39 b_10 ([.slice p2.a1 (doM cur y.op).1.map.length p2.c1, .slice p2.a2 (doM cur y.op).1.tab.length p2.c2, .slice p2.a3 (doM cur y.op).1.row.length p2.c3, .slice p2.a4 (doM cur y.op).1.heap.length p2.c4]) _ := hb_10.now (by kernel_rfl)
                  refine RL.nil (RC.back ?_)
                  refine RC.region rfl ?_
                  refine RL.ev (.as (.bin rfl rfl rfl) (wi64 (y := ((i + 1 : Nat) : Int)) (by omega) (by omega))) rfl rfl ?_
                  refine RL.ev (.move rfl) rfl rfl ?_
                  exact RL.nil (fun a ka => ⟨(i + 1, (doM cur y.op).1, p2, M2), ⟨⟨by omega, rightM_do hRc hyr.1, hs2, hst⟩, hb_11, hb_10, hF2, d_hF2_b_11, d_hF2_b_10, S⟩, by omega, ka.keep (keep_of (by repeat (first | exact trivial | refine And.intro rfl ?_)))⟩)
          ·
            obtain rfl : i = o.length := (by omega)
            rw [List.take_length] at hplay
            refine RC.exit rfl (RC.back ?_)
            refine RC.seq ?_
            refine RC.region rfl ?_
            refine RL.ev (.assign rfl) rfl rfl ?_
            refine RL.nil (RC.back ?_)
            refine RC.done (rs := [.tmp 4]) (vs := [_]) rfl rfl ⟨rfl, trivial⟩ ?_
            -- end 7
            rw [fitsM_zero.2 ⟨g18, hpm, hft, cur, hplay⟩]
            exact ⟨rfl, S⟩
end Go.Proofs.Ytlhnnleaiinjaaa
set_option linter.unusedVariables false
set_option linter.unusedSimpArgs false
namespace Go.Proofs.Ytlhnnleaiinjaaa
open Go Go.XL
set_option maxHeartbeats 1000000 in
theorem c_first (l : List En) (la : Option Addr) (lc : Nat) (hlen : l.length ≤ 1000) : ∀ (k : Nat) (b : List Int) (ba : Option Addr) (bc : Nat) (w : World), b.length + k = l.length → b.length ≤ bc → Sl w la 10 (l.map En.cells) → Sl w ba 1 (b.map fun x => [i6 x]) →
    FC Try.prog 11 [.slice la l.length lc, .slice ba (b.map fun x => [i6 x]).length bc] w (fun u w' => Sub w w' ∧ ∃ a c, u = .slice a ((firstM l k b).map fun x => [i6 x]).length c ∧ (firstM l k b).length ≤ c ∧ Sl w' a 1 ((firstM l k b).map fun x => [i6 x])) := by
  intro k
  induction k with
  | zero =>
    intro b ba bc w hk hbc hl hb
    refine FC.intro Try.func11 rfl Try.ntmps11 rfl ?_
    have S := Sub.refl w
    refine RC.seq ?_
    refine RC.region rfl ?_
    refine RL.ev (.assign rfl) rfl rfl ?_
    refine RL.nil (RC.back ?_)
    refine RC.seq ?_
    refine RC.seq ?_
    refine RC.region rfl ?_
    refine RL.ev (.move rfl) rfl rfl ?_
    refine RL.ev (.len sl23 rfl) rfl rfl ?_
    refine RL.ev (.move rfl) rfl rfl ?_
    refine RL.ev (.len sl22 rfl) rfl rfl ?_
    refine RL.ev (.as (v' := .bool true) (.bin rfl rfl rfl) (congrArg Value.bool (decide_eq_true (by rw [List.length_map]; omega)))) rfl rfl ?_
    refine RL.nil (RC.back ?_)
    refine RC.cond_t rfl ?_
    refine RC.seq ?_
    refine RC.seq ?_
    refine RC.region rfl ?_
    refine RL.ev (.move rfl) rfl rfl ?_
    refine RL.ev (.move rfl) rfl rfl ?_
    refine RL.call rfl ok10 (c_ref20Fits l la lc _ rfl hlen b ba bc _ (List.length_map _) hbc (by omega) w (hl.sub S) (hb.sub S)) rfl rfl ?_
    rintro _ w1 ⟨rfl, s2⟩
    have S := S.trans s2
    refine RL.ev (.bin rfl rfl rfl) rfl rfl ?_
    refine RL.nil (RC.back ?_)
    refine RC.cond_dec rfl (fun h3 => ?_) (fun h3 => ?_)
    ·
      have h16 : firstM l 0 b = b := (by rw [firstM, if_pos h3])
      refine RC.seq ?_
      refine RC.region rfl ?_
      refine RL.ev (.move rfl) rfl rfl ?_
      refine RL.ev (.assign rfl) rfl rfl ?_
      refine RL.nil (RC.back ?_)
      refine RC.done (rs := [.tmp 4]) (vs := [_]) rfl rfl ⟨rfl, trivial⟩ ?_
      -- end 1
      rw [h16]
      exact ⟨S, ba, bc, rfl, hbc, hb.sub S⟩
    ·
      have h16 : firstM l 0 b = [] := (by rw [firstM, if_neg h3])
      refine RC.skip (RC.back ?_)
      refine RC.seq ?_
      refine RC.region rfl ?_
      refine RL.ev (.assign rfl) rfl rfl ?_
      refine RL.nil (RC.back ?_)
      refine RC.done (rs := [.tmp 4]) (vs := [_]) rfl rfl ⟨rfl, trivial⟩ ?_
      -- end 2
      rw [h16]
      exact ⟨S, none, 0, rfl, Nat.le_refl _, Sl.nil _ _ _⟩
  | succ k ih =>
    intro b ba bc w hk hbc hl hb
    refine FC.intro Try.func11 rfl Try.ntmps11 rfl ?_
    have S := Sub.refl w
    refine RC.seq ?_
    refine RC.region rfl ?_
    refine RL.ev (.assign rfl) rfl rfl ?_
    refine RL.nil (RC.back ?_)
    refine RC.seq ?_
    refine RC.seq ?_
    refine RC.region rfl ?_
    refine RL.ev (.move rfl) rfl rfl ?_
    refine RL.ev (.len sl23 rfl) rfl rfl ?_
    refine RL.ev (.move rfl) rfl rfl ?_
    refine RL.ev (.len sl22 rfl) rfl rfl ?_
    refine RL.ev (.as (v' := .bool false) (.bin rfl rfl rfl) (congrArg Value.bool (decide_eq_false (fun e => by rw [List.length_map] at e; omega)))) rfl rfl ?_
    refine RL.nil (RC.back ?_)
    refine RC.cond_f rfl ?_
    refine RC.skip (RC.back ?_)
    refine RC.seq ?_
    refine RC.seq ?_
    refine RC.region rfl ?_
    refine RL.ev (.move rfl) rfl rfl ?_
    refine RL.ev (.len sl22 rfl) rfl rfl ?_
    refine RL.ev (.move rfl) rfl rfl ?_
    refine RL.nil (RC.back ?_)
    refine RC.block ?_
    refine RC.loop (α := Nat) (fun i => [(0, .slice la l.length lc), (1, .slice ba (b.map fun x => [i6 x]).length bc), (19, .int .i64 (l.length : Int)), (20, .int .i64 (i : Int))]) (fun i w1 => (i ≤ l.length ∧ ∀ j, j < i → firstS (firstM l k) b j = none) ∧ Sub w w1) (fun i => l.length - i) 0 (keep_of (by repeat (first | exact trivial | refine And.intro rfl ?_))) (⟨⟨Nat.zero_le _, fun j h => absurd h (Nat.not_lt_zero _)⟩, S⟩) (fun i w1 hJ => ?_)
    obtain ⟨⟨hi, hno⟩, S⟩ := hJ
    refine RC.seq ?_
    refine RC.region rfl ?_
    refine RL.ev (.bin rfl rfl rfl) rfl rfl ?_
    refine RL.nil (RC.back ?_)
    refine RC.seq ?_
    refine RC.cond_dec rfl (fun h2 => ?_) (fun h2 => ?_)
    ·
      have hil : i < l.length := (by omega)
      have hbl : b.length ≤ 1000 := (by omega)
      refine RC.skip (RC.back ?_)
      refine RC.seq ?_
      refine RC.block ?_
      refine RC.seq ?_
      refine RC.region rfl ?_
      refine RL.ev (.move rfl) rfl rfl ?_
      refine RL.ev (.assign rfl) rfl rfl ?_
      refine RL.nil (RC.back ?_)
      refine RC.seq ?_
      refine RC.region rfl ?_
      refine RL.ev (.move rfl) rfl rfl ?_
      refine RL.ev (.move rfl) rfl rfl ?_
      refine RL.call rfl ok24 (c_has b ba bc _ (List.length_map _) (i : Int) w1 (hb.sub S) (by omega)) rfl rfl ?_
      rintro _ w3 ⟨rfl, s4⟩
      have S := S.trans s4
      refine RL.ev (.bin rfl rfl rfl) rfl rfl ?_
      refine RL.nil (RC.back ?_)
      refine RC.cond_dec rfl (fun h5 => ?_) (fun h5 => ?_)
      ·
        have h26 : ¬ (i : Int) ∈ b := (fun e => by have := List.count_pos_iff.2 e; omega)
        have hst : firstS (firstM l k) b i = if firstM l k (b ++ [(i : Int)]) = [] then none else some (firstM l k (b ++ [(i : Int)])) := (by unfold firstS; rw [if_neg h26])
        obtain ⟨W0, hW0⟩ : ∃ W, W = w3 := ⟨_, rfl⟩
        have S0 : Sub W0 w3 := hW0 ▸ Sub.refl _
        have hb0 : Sl W0 ba 1 (b.map fun x => [i6 x]) := (by rw [hW0]; exact hb.sub S)
        have sw0 := S.size
        rw [← hW0] at sw0
        refine RC.seq ?_
        refine RC.region rfl ?_
        refine RL.buildSlice0 sl23 rfl rfl (fun b_27 w_27 e_27 z_27 hb_27 s_27 => ?_)
        have ge_27 := S.le e_27
        have S := S.trans s_27
        have geS0_27 := S0.le e_27
        have S0 := S0.trans s_27
        refine RL.ev (.assign rfl) rfl rfl ?_
        refine RL.nil (RC.back ?_)
        refine RC.seq ?_
        refine RC.region rfl ?_
        refine RL.ev (.move rfl) rfl rfl ?_
        refine RL.ev (.move rfl) rfl rfl ?_
        have sz_30 := S.size
        have szS0_30 := S0.size
        have ltb_27_30 := hb_27.lt
        refine RL.append2 (base := W0.heap.size) (rows := []) (news := b.map fun x => [i6 x]) sl23 ze3 rfl rfl rfl rfl (.inl (Ows.lit0 hb_27 (by omega))) (hb0.sub S0) (by (try simp only [List.length_map]); first | done | rfl) (by intro r hr; obtain ⟨x, _, rfl⟩ := List.mem_map.1 hr; rfl) (by rw [List.all_eq_true]; intro r hr; obtain ⟨x, _, rfl⟩ := List.mem_map.1 hr; rfl) (by (try simp only [List.length_map, List.length_nil, List.length_append, List.length_cons]); omega) (by (try simp only [List.length_map, List.length_nil, List.length_append, List.length_cons]); omega) (by omega) rfl rfl (fun v_30 w_30 hc_30 ho_30 ag_30 ob_30 => ?_)
        have o30 := ho_30 (.inr (Ows.lit0 hb_27 (by omega)))
        have S := S.agrN ag_30 (fun k e => Nat.le_trans (by omega) e.2)
        have S0 := S0.agrN ag_30 (fun k e => Nat.le_trans (by omega) e.2)
        obtain ⟨a_30, c_30, rfl, k_30⟩ := o30.form
        refine RL.ev (.assign rfl) rfl rfl ?_
        refine RL.nil (RC.back ?_)
        refine RC.seq ?_
        refine RC.region rfl ?_
        refine RL.ev (.move rfl) rfl rfl ?_
        refine RL.ev (.move rfl) rfl rfl ?_
        refine RL.buildSlice1 sl23 _ ze3 rfl rfl rfl rfl rfl rfl rfl (fun b_33 w_33 e_33 z_33 hb_33 s_33 => ?_)
        have ge_33 := S.le e_33
        have d_o30_b_33 := o30.neNew e_33
        have S := S.trans s_33
        have geS0_33 := S0.le e_33
        have S0 := S0.trans s_33
        have o30 := o30.sub s_33
        have sz_34 := S.size
        have szS0_34 := S0.size
        have ltb_33_34 := hb_33.lt
        refine RL.append2 (base := W0.heap.size) (rows := b.map fun x => [i6 x]) (news := [_]) sl23 ze3 rfl rfl rfl rfl (.inl o30) (Has.slOne hb_33) rfl (by intro r hr; rw [List.mem_singleton] at hr; subst hr; rfl) rfl (by (try simp only [List.length_map, List.length_nil, List.length_append, List.length_cons]); omega) (by (try simp only [List.length_map, List.length_nil, List.length_append, List.length_cons]); omega) (by omega) rfl rfl (fun v_34 w_34 hc_34 ho_34 ag_34 ob_34 => ?_)
        have o34 := ho_34 (.inl (by simp))
        rw [show _ ++ [_] = ((b ++ [(i : Int)]).map fun x => [i6 x]) from by rw [List.map_append]; rfl] at o34
        have S := S.agrN ag_34 (fun k e => Nat.le_trans (by omega) e.2)
        have S0 := S0.agrN ag_34 (fun k e => Nat.le_trans (by omega) e.2)
        obtain ⟨a_34, c_34, rfl, k_34⟩ := o34.form
        refine RL.ev (.assign rfl) rfl rfl ?_
        refine RL.nil (RC.back ?_)
        refine RC.seq ?_
        refine RC.region rfl ?_
        refine RL.ev (.move rfl) rfl rfl ?_
        refine RL.ev (.move rfl) rfl rfl ?_
        refine RL.call rfl ok11 (ih (b ++ [(i : Int)]) a_34 c_34 w_34 (by rw [List.length_append, List.length_singleton]; omega) (by have := k_34; simpa using this) (hl.sub S) o34.sl.1) rfl rfl ?_
        rintro _ w6 ⟨s7, a37, c37, rfl, hc37, hs37⟩
        have S := S.trans s7
        have S0 := S0.trans s7
        have o34 := o34.sub s7
        refine RL.ev (.assign rfl) rfl rfl ?_
        refine RL.nil (RC.back ?_)
        refine RC.seq ?_
        refine RC.region rfl ?_
        refine RL.ev (.move rfl) rfl rfl ?_
        refine RL.ev (.len sl23 rfl) rfl rfl ?_
        refine RL.ev (.bin rfl rfl rfl) rfl rfl ?_
        refine RL.nil (RC.back ?_)
        refine RC.cond_dec rfl (fun h8 => ?_) (fun h8 => ?_)
        ·
          have h40 : ¬ firstM l k (b ++ [(i : Int)]) = [] := (fun e => by rw [e] at h8; exact absurd h8 (by decide))
          have hfin : firstM l (k + 1) b = firstM l k (b ++ [(i : Int)]) := (by rw [firstM, find_range hil hno (by rw [hst, if_neg h40])]; rfl)
          refine RC.seq ?_
          refine RC.region rfl ?_
          refine RL.ev (.move rfl) rfl rfl ?_
          refine RL.ev (.assign rfl) rfl rfl ?_
          refine RL.nil (RC.back ?_)
          refine RC.done (rs := [.tmp 4]) (vs := [_]) rfl rfl ⟨rfl, trivial⟩ ?_
          -- end 1
          rw [hfin]
          exact ⟨S, a37, c37, rfl, hc37, hs37⟩
        ·
          have h40 : firstM l k (b ++ [(i : Int)]) = [] := (List.eq_nil_of_length_eq_zero (by have q := h8; rw [List.length_map] at q; omega))
          have hn40 : firstS (firstM l k) b i = none := (by rw [hst, if_pos h40])
          refine RC.skip (RC.back ?_)
          refine RC.region rfl ?_
          refine RL.ev (.as (.bin rfl rfl rfl) (wi64 (y := ((i + 1 : Nat) : Int)) (by omega) (by omega))) rfl rfl ?_
          refine RL.ev (.move rfl) rfl rfl ?_
          exact RL.nil (fun a ka => ⟨i + 1, ⟨⟨by omega, fun j hj => by rcases Nat.lt_or_eq_of_le (Nat.le_of_lt_succ hj) with q | q; exact hno j q; rw [q]; exact hn40⟩, S⟩, by omega, ka.keep (keep_of (by repeat (first | exact trivial | refine And.intro rfl ?_)))⟩)
      ·
        have h26 : (i : Int) ∈ b := (List.count_pos_iff.1 (by omega))
        have hn26 : firstS (firstM l k) b i = none := (by unfold firstS; rw [if_pos h26])
        refine RC.skip (RC.back ?_)
        refine RC.region rfl ?_
        refine RL.ev (.as (.bin rfl rfl rfl) (wi64 (y := ((i + 1 : Nat) : Int)) (by omega) (by omega))) rfl rfl ?_
        refine RL.ev (.move rfl) rfl rfl ?_
        exact RL.nil (fun a ka => ⟨i + 1, ⟨⟨by omega, fun j hj => by rcases Nat.lt_or_eq_of_le (Nat.le_of_lt_succ hj) with q | q; exact hno j q; rw [q]; exact hn26⟩, S⟩, by omega, ka.keep (keep_of (by repeat (first | exact trivial | refine And.intro rfl ?_)))⟩)
    ·
      have hfin : firstM l (k + 1) b = [] := (by rw [firstM, find_none (fun j hj => hno j (by omega))]; rfl)
      refine RC.exit rfl (RC.back ?_)
      refine RC.seq ?_
      refine RC.region rfl ?_
      refine RL.ev (.assign rfl) rfl rfl ?_
      refine RL.nil (RC.back ?_)
      refine RC.done (rs := [.tmp 4]) (vs := [_]) rfl rfl ⟨rfl, trivial⟩ ?_
      -- end 2
      rw [hfin]
      exact ⟨S, none, 0, rfl, Nat.le_refl _, Sl.nil _ _ _⟩
theorem c_same20 (l m : List Int) (a b : Option Addr) (c d n k : Nat) (hn : n = l.length) (hk : k = m.length) (w : World) (hl : Sl w a 1 (l.map fun x => [i6 x])) (hm : Sl w b 1 (m.map fun x => [i6 x])) (hb : l.length ≤ 1000000) :
    FC Try.prog 12 [.slice a n c, .slice b k d] w (Val (.bool (decide (l = m))) w) := by
  subst hn hk
  refine FC.intro Try.func12 rfl Try.ntmps12 rfl ?_
  have S := Sub.refl w
  refine RC.seq ?_
  refine RC.region rfl ?_
  refine RL.ev (.assign rfl) rfl rfl ?_
  refine RL.nil (RC.back ?_)
  refine RC.seq ?_
  refine RC.seq ?_
  refine RC.region rfl ?_
  refine RL.ev (.move rfl) rfl rfl ?_
  refine RL.ev (.len sl23 rfl) rfl rfl ?_
  refine RL.ev (.move rfl) rfl rfl ?_
  refine RL.ev (.len sl23 rfl) rfl rfl ?_
  refine RL.ev (.bin rfl rfl rfl) rfl rfl ?_
  refine RL.nil (RC.back ?_)
  refine RC.cond_dec rfl (fun h1 => ?_) (fun h1 => ?_)
  ·
    have hne : ¬ l = m := (fun e => by subst e; exact absurd rfl h1)
    refine RC.seq ?_
    refine RC.region rfl ?_
    refine RL.ev (.assign rfl) rfl rfl ?_
    refine RL.nil (RC.back ?_)
    refine RC.done (rs := [.tmp 4]) (vs := [_]) rfl rfl ⟨rfl, trivial⟩ ?_
    -- end 1
    rw [decide_eq_false hne]
    exact ⟨rfl, S⟩
  ·
    have hlen : l.length = m.length := (by have := h1; omega)
    refine RC.skip (RC.back ?_)
    refine RC.seq ?_
    refine RC.seq ?_
    refine RC.region rfl ?_
    refine RL.ev (.move rfl) rfl rfl ?_
    refine RL.ev (.len sl23 rfl) rfl rfl ?_
    refine RL.ev (.move rfl) rfl rfl ?_
    refine RL.nil (RC.back ?_)
    refine RC.block ?_
    refine RC.loop (α := Nat) (fun i => [(0, .slice a l.length c), (1, .slice b m.length d), (12, .int .i64 (l.length : Int)), (13, .int .i64 (i : Int))]) (fun i w2 => (i ≤ l.length ∧ l.take i = m.take i) ∧ Sub w w2) (fun i => l.length - i) 0 (keep_of (by repeat (first | exact trivial | refine And.intro rfl ?_))) (⟨⟨Nat.zero_le _, by simp⟩, S⟩) (fun i w2 hJ => ?_)
    obtain ⟨⟨hi, hp⟩, S⟩ := hJ
    refine RC.seq ?_
    refine RC.region rfl ?_
    refine RL.ev (.bin rfl rfl rfl) rfl rfl ?_
    refine RL.nil (RC.back ?_)
    refine RC.seq ?_
    refine RC.cond_dec rfl (fun h3 => ?_) (fun h3 => ?_)
    ·
      obtain ⟨x, hx⟩ := getSome (l := l) (i := i) (by omega)
      obtain ⟨y, hy⟩ := getSome (l := m) (i := i) (by omega)
      refine RC.skip (RC.back ?_)
      refine RC.seq ?_
      refine RC.block ?_
      refine RC.seq ?_
      refine RC.region rfl ?_
      refine RL.ev (.move rfl) rfl rfl ?_
      refine RL.ev (.assign rfl) rfl rfl ?_
      refine RL.nil (RC.back ?_)
      refine RC.seq ?_
      refine RC.draw rfl mxo (by kernel_rfl) ?_
      refine RQ.ev (.move rfl) rfl rfl ?_
      refine RQ.ev (.move rfl) rfl rfl ?_
      refine RQ.ev (.indexS sl23 rfl rfl (by omega) (hl.is (i := 0) (by simp only [List.length_map, List.length_cons, List.length_nil]; omega))) rfl rfl ?_
      refine RQ.ev (.load1 sh3 rfl ((hl.sub S).one (enc := i6) (i := i) hx)) rfl rfl ?_
      refine RQ.ev (.move rfl) rfl rfl ?_
      refine RQ.ev (.move rfl) rfl rfl ?_
      refine RQ.ev (.indexS sl23 rfl rfl (by omega) (hm.is (i := 0) (by simp only [List.length_map, List.length_cons, List.length_nil]; omega))) rfl rfl ?_
      refine RQ.ev (.load1 sh3 rfl ((hm.sub S).one (enc := i6) (i := i) hy)) rfl rfl ?_
      refine RQ.ev (.bin rfl rfl rfl) rfl rfl ?_
      refine RQ.nil (fun w4 s5 => RC.back ?_)
      have S := S.trans s5
      refine RC.cond_dec rfl (fun h6 => ?_) (fun h6 => ?_)
      ·
        have hxy : ¬ x = y := h6
        have hne : ¬ l = m := (fun e => by subst e; rw [hx] at hy; cases hy; exact hxy rfl)
        refine RC.seq ?_
        refine RC.region rfl ?_
        refine RL.ev (.assign rfl) rfl rfl ?_
        refine RL.nil (RC.back ?_)
        refine RC.done (rs := [.tmp 4]) (vs := [_]) rfl rfl ⟨rfl, trivial⟩ ?_
        -- end 2
        rw [decide_eq_false hne]
        exact ⟨rfl, S⟩
      ·
        have hxy : x = y := Decidable.not_not.1 h6
        refine RC.skip (RC.back ?_)
        refine RC.region rfl ?_
        refine RL.ev (.as (.bin rfl rfl rfl) (wi64 (y := ((i + 1 : Nat) : Int)) (by omega) (by omega))) rfl rfl ?_
        refine RL.ev (.move rfl) rfl rfl ?_
        exact RL.nil (fun a ka => ⟨i + 1, ⟨⟨by omega, ints_ext hx hy hp hxy⟩, S⟩, by omega, ka.keep (keep_of (by repeat (first | exact trivial | refine And.intro rfl ?_)))⟩)
    ·
      obtain rfl : i = l.length := (by omega)
      rw [List.take_length, hlen, List.take_length] at hp
      refine RC.exit rfl (RC.back ?_)
      refine RC.seq ?_
      refine RC.region rfl ?_
      refine RL.ev (.assign rfl) rfl rfl ?_
      refine RL.nil (RC.back ?_)
      refine RC.done (rs := [.tmp 4]) (vs := [_]) rfl rfl ⟨rfl, trivial⟩ ?_
      -- end 3
      rw [decide_eq_true hp]
      exact ⟨rfl, S⟩
theorem order_fit {l : List En} (h : rightH l ∧ l.length ≤ 8) {r : List Int} (hf : fitsM l r = 0) (hne : ¬ r = []) : ∃ r', orderM l = (r', 0) ∧ fitsM l r' = 0 := by
  have h1 : ¬ firstM l l.length [] = [] := firstM_all hf hne (b := []) (s := r) rfl ((fitsM_zero.1 hf).2.1.1)
  rw [first_try h.1 (Beg.nil l)] at h1
  cases ht : tryM l l.length [] m0 with
  | none => rw [ht] at h1; exact absurd rfl h1
  | some r' => exact ⟨r', orderM_some h ht, (tryM_fits h.1 (Beg.nil l) ht).1⟩
theorem order_cases {l : List En} (h : rightH l ∧ l.length ≤ 8) : (orderM l = ([], 3) ∧ tryM l l.length [] m0 = none) ∨ ∃ r, orderM l = (r, 0) ∧ tryM l l.length [] m0 = some r ∧ fitsM l r = 0 ∧ r.length = l.length := by
  cases ht : tryM l l.length [] m0 with
  | none => exact .inl ⟨orderM_none h ht, rfl⟩
  | some r => exact .inr ⟨r, orderM_some h ht, rfl, (tryM_fits h.1 (Beg.nil l) ht).1, (tryM_fits h.1 (Beg.nil l) ht).2⟩
def al20 : List En := [⟨0, ⟨3, 6, 0, 0⟩, ⟨0, 1, 0⟩, 0, 9⟩, ⟨0, ⟨3, 2, 7, 0⟩, ⟨0, 0, 0⟩, 3, 5⟩]
theorem al_right : rightH al20 := by
  refine ⟨?_, by decide⟩
  unfold rightE
  decide
theorem al_fits : fitsM al20 [1, 0] = 0 := by
  refine fitsM_zero.2 ⟨al_right, ⟨rfl, by decide⟩, ?_, ?_⟩
  · unfold fitsT laterP; decide
  · exact ⟨⟨[], [], [7], []⟩, by rfl⟩
theorem al_order : ∃ r, orderM al20 = (r, 0) ∧ r = [1, 0] := by
  obtain ⟨r, h1, h2⟩ := order_fit ⟨al_right, by decide⟩ al_fits (by simp)
  refine ⟨r, h1, ?_⟩
  obtain ⟨_, hp, _, m, hm⟩ := fitsM_zero.1 h2
  obtain ⟨hr, hn⟩ := perm_once hp.1 hp.2
  have h2 := hp.1
  match r, h2 with
  | [x, y], _ =>
    have hx := hr x (by simp)
    have hy := hr y (by simp)
    have hxy : ¬ x = y := by rw [List.nodup_cons] at hn; simpa using hn.1
    have h2 : ((al20.length : Nat) : Int) = 2 := rfl
    rw [h2] at hx hy
    have : (x = 0 ∧ y = 1) ∨ (x = 1 ∧ y = 0) := by omega
    rcases this with ⟨rfl, rfl⟩ | ⟨rfl, rfl⟩
    · have : playM m0 ([0, 1].map (enAt al20)) = none := by rfl
      rw [this] at hm; cases hm
    · rfl
theorem c_alive20 (w : World) : FC Try.prog 9 [] w (Val (.bool true) w) := by
  obtain ⟨r, hr, hr2⟩ := al_order
  subst hr2
  refine FC.intro Try.func9 rfl Try.ntmps9 rfl ?_
  have S := Sub.refl w
  refine RC.seq ?_
  refine RC.region rfl ?_
  refine RL.ev (.assign rfl) rfl rfl ?_
  refine RL.nil (RC.back ?_)
  refine RC.seq ?_
  refine RC.region rfl ?_
  refine RL.ev (.as (v' := .agg #[.int .i64 3, .int .i64 6, .int .i64 0, .int .i64 0]) (.buildS ze40 pl40 rfl rfl) (by rfl)) rfl rfl ?_
  refine RL.ev (.as (v' := .agg #[.int .i64 0, .int .i64 1, .int .i64 0]) (.buildS ze43 pl43 rfl rfl) (by rfl)) rfl rfl ?_
  refine RL.ev (.as (v' := .agg #[.int .i64 0, .int .i64 3, .int .i64 6, .int .i64 0, .int .i64 0, .int .i64 0, .int .i64 1, .int .i64 0, .int .i64 0, .int .i64 9]) (.buildS ze48 pl48 rfl rfl) (by rfl)) rfl rfl ?_
  refine RL.ev (.as (v' := .agg #[.int .i64 3, .int .i64 2, .int .i64 7, .int .i64 0]) (.buildS ze40 pl40 rfl rfl) (by rfl)) rfl rfl ?_
  refine RL.ev (.as (v' := .agg #[.int .i64 0, .int .i64 3, .int .i64 2, .int .i64 7, .int .i64 0, .int .i64 0, .int .i64 0, .int .i64 0, .int .i64 3, .int .i64 5]) (.buildS ze48 pl48 rfl rfl) (by rfl)) rfl rfl ?_
  refine RL.buildSliceN (vs := [_, _]) sl22 _ ze48 rfl ⟨rfl, rfl, trivial⟩ rfl rfl rfl rfl rfl rfl (fun b_9 w_9 e_9 z_9 hb_9 s_9 => ?_)
  have ge_9 := S.le e_9
  have S := S.trans s_9
  refine RL.ev (.assign rfl) rfl rfl ?_
  refine RL.nil (RC.back ?_)
  refine RC.seq ?_
  refine RC.region rfl ?_
  refine RL.ev (.move rfl) rfl rfl ?_
  refine RL.call rfl ok7 (c_Order al20 (some ⟨b_9, 0, none⟩) 2 2 rfl (by decide) w_9 (Has.sl0 (rows := al20.map En.cells) hb_9 (by intro r hr; obtain ⟨x, _, rfl⟩ := List.mem_map.1 hr; rfl))) rfl rfl ?_
  rintro _ w1 ⟨s2, a12, c12, rfl, _, hs12⟩
  have S := S.trans s2
  have hb_9 := hb_9.sub s2
  rw [hr] at hs12
  obtain ⟨W9, S9, hs12⟩ : ∃ W, Sub W w1 ∧ Sl W a12 1 (([1, 0] : List Int).map fun x => [i6 x]) := ⟨_, Sub.refl _, hs12⟩
  rw [hr]
  refine RL.ev (.move rfl) rfl rfl ?_
  refine RL.ev (.extract rfl rfl) rfl rfl ?_
  refine RL.ev (.extract rfl rfl) rfl rfl ?_
  refine RL.ev (.assign rfl) rfl rfl ?_
  refine RL.ev (.assign rfl) rfl rfl ?_
  refine RL.nil (RC.back ?_)
  refine RC.seq ?_
  refine RC.region rfl ?_
  refine RL.ev (.move rfl) rfl rfl ?_
  refine RL.ev (.as (v' := .bool true) (.bin rfl rfl rfl) (congrArg Value.bool (decide_eq_true (rfl)))) rfl rfl ?_
  refine RL.ev (.move rfl) rfl rfl ?_
  refine RL.ev (.move rfl) rfl rfl ?_
  refine RL.ev (.len sl23 rfl) rfl rfl ?_
  refine RL.ev (.as (v' := .bool true) (.bin rfl rfl rfl) (congrArg Value.bool (decide_eq_true (rfl)))) rfl rfl ?_
  refine RL.ev (.pick_t rfl rfl) rfl rfl ?_
  refine RL.ev (.move rfl) rfl rfl ?_
  refine RL.ev (.move rfl) rfl rfl ?_
  refine RL.ev (.indexS sl23 rfl rfl (by decide) (hs12.is (i := 0) (by decide))) rfl rfl ?_
  refine RL.ev (.load1 sh3 rfl ((hs12.sub S9).one (enc := i6) (i := 0) (x := 1) rfl)) rfl rfl ?_
  refine RL.ev (.as (v' := .bool true) (.bin rfl rfl rfl) (congrArg Value.bool (decide_eq_true (rfl)))) rfl rfl ?_
  refine RL.ev (.pick_t rfl rfl) rfl rfl ?_
  refine RL.ev (.assign rfl) rfl rfl ?_
  refine RL.nil (RC.back ?_)
  refine RC.done (rs := [.tmp 0]) (vs := [_]) rfl rfl ⟨rfl, trivial⟩ ?_
  -- end 1
  exact ⟨rfl, S⟩
end Go.Proofs.Ytlhnnleaiinjaaa
set_option linter.unusedVariables false
set_option linter.unusedSimpArgs false
namespace Go.Proofs.Ytlhnnleaiinjaaa
open Go Go.XL
def En.ok (x : En) : Prop := I64 x.proc ∧ (I64 x.op.box ∧ I64 x.op.kind ∧ I64 x.op.a ∧ I64 x.op.b) ∧ (I64 x.res.e ∧ I64 x.res.a ∧ I64 x.res.b) ∧ I64 x.fr ∧ I64 x.to
theorem fit_en (r : List Value) (h : fitsR [some .i64, some .i64, some .i64, some .i64, some .i64, some .i64, some .i64, some .i64, some .i64, some .i64] r) : ∃ x : En, r = x.cells ∧ x.ok := by
  obtain ⟨_, _, rfl, h0, h⟩ := fitsR_cons h
  obtain ⟨_, _, rfl, h1, h⟩ := fitsR_cons h
  obtain ⟨_, _, rfl, h2, h⟩ := fitsR_cons h
  obtain ⟨_, _, rfl, h3, h⟩ := fitsR_cons h
  obtain ⟨_, _, rfl, h4, h⟩ := fitsR_cons h
  obtain ⟨_, _, rfl, h5, h⟩ := fitsR_cons h
  obtain ⟨_, _, rfl, h6, h⟩ := fitsR_cons h
  obtain ⟨_, _, rfl, h7, h⟩ := fitsR_cons h
  obtain ⟨_, _, rfl, h8, h⟩ := fitsR_cons h
  obtain ⟨_, _, rfl, h9, h⟩ := fitsR_cons h
  obtain rfl := fitsR_nil h
  obtain ⟨a0, rfl, g0⟩ := fitI h0
  obtain ⟨a1, rfl, g1⟩ := fitI h1
  obtain ⟨a2, rfl, g2⟩ := fitI h2
  obtain ⟨a3, rfl, g3⟩ := fitI h3
  obtain ⟨a4, rfl, g4⟩ := fitI h4
  obtain ⟨a5, rfl, g5⟩ := fitI h5
  obtain ⟨a6, rfl, g6⟩ := fitI h6
  obtain ⟨a7, rfl, g7⟩ := fitI h7
  obtain ⟨a8, rfl, g8⟩ := fitI h8
  obtain ⟨a9, rfl, g9⟩ := fitI h9
  exact ⟨⟨a0, ⟨a1, a2, a3, a4⟩, ⟨a5, a6, a7⟩, a8, a9⟩, rfl, g0, ⟨g1, g2, g3, g4⟩, ⟨g5, g6, g7⟩, g8, g9⟩
section
variable {H : Type} {enc : TypeId × Value → H} {W : World} {base : Nat} {sp : Nat → Bool} {held : Bool} {v : Value} {d : DataW H} {ps : List MemPlace} {r : Reach} {b : Nat}
set_option maxRecDepth 100000 in
theorem open_ens (hok : Value.okWide Try.prog W r b 22 v) (h : DataW.Trod enc Try.prog W base sp held 22 v d ps) : ∃ (a : Option Addr) (l : List En) (c : Nat), v = .slice a l.length c ∧ l.length ≤ c ∧ c ≤ maxLen ∧ Sl W a 10 (l.map En.cells) ∧ ∀ x ∈ l, x.ok :=
  open_sl En.cells En.ok sl22 fk48 rfl fit_en hok h
end
set_option maxHeartbeats 1000000 in
theorem law_HistoryOrders (w : World) (l : List En) (la : Option Addr) (lc : Nat) (hlc : l.length ≤ lc) (hlm : lc ≤ maxLen) (hl : Sl w la 10 (l.map En.cells)) (hli : ∀ x ∈ l, x.ok) :
    FC Try.prog 3 [.slice la l.length lc] w (Val (.bool true) w) := by
  obtain ⟨k, hk⟩ : ∃ k, k = l.take 10 := ⟨_, rfl⟩
  have hsk : Sl w la 10 (k.map En.cells) := by rw [hk, List.map_take]; exact hl.take _
  have hkl : k.length ≤ 10 := by rw [hk, List.length_take]; omega
  obtain ⟨q, hq⟩ : ∃ q, q = orderM k := ⟨_, rfl⟩
  refine FC.intro Try.func3 rfl Try.ntmps3 rfl ?_
  have S := Sub.refl w
  refine RC.seq ?_
  refine RC.region rfl ?_
  refine RL.ev (.assign rfl) rfl rfl ?_
  refine RL.nil (RC.back ?_)
  refine RC.seq ?_
  refine RC.region rfl ?_
  refine RL.ev (.move rfl) rfl rfl ?_
  refine RL.ev (.move rfl) rfl rfl ?_
  refine RL.ev (.len sl22 rfl) rfl rfl ?_
  refine RL.ev (.min2 rfl rfl) rfl rfl ?_
  refine RL.ev (.as (v' := .slice la k.length lc) (.sliceHi sl22 rfl rfl (by split <;> omega)) (by rw [hk, ← few_len]; rfl)) rfl rfl ?_
  refine RL.ev (.assign rfl) rfl rfl ?_
  refine RL.nil (RC.back ?_)
  refine RC.seq ?_
  refine RC.region rfl ?_
  refine RL.ev (.move rfl) rfl rfl ?_
  refine RL.call rfl ok7 (c_Order k la lc _ rfl (by omega) w (hsk.sub S)) rfl rfl ?_
  rintro _ w1 ⟨s2, a13, c13, rfl, hc13, hs13⟩
  have S := S.trans s2
  rw [← hq] at hs13 hc13
  obtain ⟨W9, S9, hs13⟩ : ∃ W, Sub W w1 ∧ Sl W a13 1 (q.1.map fun x => [i6 x]) := ⟨_, Sub.refl _, hs13⟩
  rw [← hq]
  refine RL.ev (.move rfl) rfl rfl ?_
  refine RL.ev (.extract rfl rfl) rfl rfl ?_
  refine RL.ev (.extract rfl rfl) rfl rfl ?_
  refine RL.ev (.assign rfl) rfl rfl ?_
  refine RL.ev (.assign rfl) rfl rfl ?_
  refine RL.nil (RC.back ?_)
  refine RC.seq ?_
  refine RC.seq ?_
  refine RC.region rfl ?_
  refine RL.ev (.move rfl) rfl rfl ?_
  refine RL.call rfl ok8 (c_ref20Right k la lc _ rfl w1 (hsk.sub S) (by omega)) rfl rfl ?_
  rintro _ w3 ⟨rfl, s4⟩
  have S := S.trans s4
  have S9 := S9.trans s4
  refine RL.ev (.not rfl) rfl rfl ?_
  refine RL.ev (.move rfl) rfl rfl ?_
  refine RL.splitB 19 rfl (fun h5 => ?_) (fun h5 => ?_)
  ·
    have gno : ¬ (rightH k ∧ k.length ≤ 8) := (fun e => by rw [pB_yes e.1] at h5; cases h5)
    have hqn : q = ([], 1) := hq.trans (orderM_no gno)
    refine RL.off rfl rfl ?_
    refine RL.off rfl rfl ?_
    refine RL.off rfl rfl ?_
    refine RL.ev (.pick_t rfl rfl) rfl rfl ?_
    refine RL.nil (RC.back ?_)
    refine RC.cond_t rfl ?_
    refine RC.seq ?_
    refine RC.region rfl ?_
    refine RL.call rfl ok9 (c_alive20 w3) rfl rfl ?_
    rintro _ w6 ⟨rfl, s7⟩
    have S := S.trans s7
    have S9 := S9.trans s7
    refine RL.ev (.move rfl) rfl rfl ?_
    refine RL.ev (.move rfl) rfl rfl ?_
    refine RL.ev (.as (v' := .bool true) (.bin rfl rfl rfl) (congrArg Value.bool (decide_eq_true (by rw [hqn])))) rfl rfl ?_
    refine RL.ev (.pick_t rfl rfl) rfl rfl ?_
    refine RL.ev (.move rfl) rfl rfl ?_
    refine RL.ev (.move rfl) rfl rfl ?_
    refine RL.ev (.len sl23 rfl) rfl rfl ?_
    refine RL.ev (.as (v' := .bool true) (.bin rfl rfl rfl) (congrArg Value.bool (decide_eq_true (by rw [hqn]; rfl)))) rfl rfl ?_
    refine RL.ev (.pick_t rfl rfl) rfl rfl ?_
    refine RL.ev (.assign rfl) rfl rfl ?_
    refine RL.nil (RC.back ?_)
    refine RC.done (rs := [.tmp 2]) (vs := [_]) rfl rfl ⟨rfl, trivial⟩ ?_
    -- end 1
    exact ⟨rfl, S⟩
  ·
    have g19 : rightH k := (by have q := h5; rw [Bool.not_eq_false'] at q; exact pB_iff.1 q)
    refine RL.ev (.move rfl) rfl rfl ?_
    refine RL.ev (.len sl22 rfl) rfl rfl ?_
    refine RL.ev (.bin rfl rfl rfl) rfl rfl ?_
    refine RL.ev (.pick_f rfl rfl) rfl rfl ?_
    refine RL.nil (RC.back ?_)
    refine RC.cond_dec rfl (fun h8 => ?_) (fun h8 => ?_)
    ·
      have gno : ¬ (rightH k ∧ k.length ≤ 8) := (fun e => by omega)
      have hqn : q = ([], 1) := hq.trans (orderM_no gno)
      refine RC.seq ?_
      refine RC.region rfl ?_
      refine RL.call rfl ok9 (c_alive20 w3) rfl rfl ?_
      rintro _ w9 ⟨rfl, s10⟩
      have S := S.trans s10
      have S9 := S9.trans s10
      refine RL.ev (.move rfl) rfl rfl ?_
      refine RL.ev (.move rfl) rfl rfl ?_
      refine RL.ev (.as (v' := .bool true) (.bin rfl rfl rfl) (congrArg Value.bool (decide_eq_true (by rw [hqn])))) rfl rfl ?_
      refine RL.ev (.pick_t rfl rfl) rfl rfl ?_
      refine RL.ev (.move rfl) rfl rfl ?_
      refine RL.ev (.move rfl) rfl rfl ?_
      refine RL.ev (.len sl23 rfl) rfl rfl ?_
      refine RL.ev (.as (v' := .bool true) (.bin rfl rfl rfl) (congrArg Value.bool (decide_eq_true (by rw [hqn]; rfl)))) rfl rfl ?_
      refine RL.ev (.pick_t rfl rfl) rfl rfl ?_
      refine RL.ev (.assign rfl) rfl rfl ?_
      refine RL.nil (RC.back ?_)
      refine RC.done (rs := [.tmp 2]) (vs := [_]) rfl rfl ⟨rfl, trivial⟩ ?_
      -- end 2
      exact ⟨rfl, S⟩
    ·
      have gyes : rightH k ∧ k.length ≤ 8 := ⟨g19, by omega⟩
      have hcs := order_cases gyes
      rw [← hq] at hcs
      refine RC.skip (RC.back ?_)
      refine RC.seq ?_
      refine RC.seq ?_
      refine RC.region rfl ?_
      refine RL.ev (.move rfl) rfl rfl ?_
      refine RL.ev (.len sl22 rfl) rfl rfl ?_
      refine RL.ev (.bin rfl rfl rfl) rfl rfl ?_
      refine RL.nil (RC.back ?_)
      refine RC.cond_dec rfl (fun h11 => ?_) (fun h11 => ?_)
      ·
        refine RC.seq ?_
        refine RC.region rfl ?_
        refine RL.call rfl ok9 (c_alive20 w3) rfl rfl ?_
        rintro _ w12 ⟨rfl, s13⟩
        have S := S.trans s13
        have S9 := S9.trans s13
        refine RL.ev (.move rfl) rfl rfl ?_
        refine RL.ev (.move rfl) rfl rfl ?_
        refine RL.ev (.bin rfl rfl rfl) rfl rfl ?_
        refine RL.ev (.move rfl) rfl rfl ?_
        refine RL.split 41 rfl (fun h14 => ?_) (fun h14 => ?_)
        ·
          have h40 : q.2 = 3 := h14
          have hqn : q.1 = [] := (by rcases hcs with ⟨e, _⟩ | ⟨r, e, _⟩; rw [e]; rw [e] at h40; exact absurd h40 (by show ¬ (0 : Int) = 3; decide))
          refine RL.ev (.move rfl) rfl rfl ?_
          refine RL.ev (.len sl23 rfl) rfl rfl ?_
          refine RL.ev (.as (v' := .bool true) (.bin rfl rfl rfl) (congrArg Value.bool (decide_eq_true (by rw [hqn]; rfl)))) rfl rfl ?_
          refine RL.ev (.pick_t rfl rfl) rfl rfl ?_
          refine RL.ev (.move rfl) rfl rfl ?_
          refine RL.off rfl rfl ?_
          refine RL.off rfl rfl ?_
          refine RL.off rfl rfl ?_
          refine RL.off rfl rfl ?_
          refine RL.off rfl rfl ?_
          refine RL.off rfl rfl ?_
          refine RL.off rfl rfl ?_
          refine RL.off rfl rfl ?_
          refine RL.ev (.pick_t rfl rfl) rfl rfl ?_
          refine RL.ev (.pick_t rfl rfl) rfl rfl ?_
          refine RL.ev (.assign rfl) rfl rfl ?_
          refine RL.nil (RC.back ?_)
          refine RC.done (rs := [.tmp 2]) (vs := [_]) rfl rfl ⟨rfl, trivial⟩ ?_
          -- end 3
          exact ⟨rfl, S⟩
        ·
          have h40 : ¬ q.2 = 3 := h14
          obtain ⟨r, e, ht, hfr, hrl⟩ := hcs.resolve_left (fun c => h40 (by rw [c.1]))
          have hq1 : q.1 = r := (by rw [e])
          have hq2 : q.2 = 0 := (by rw [e])
          refine RL.off rfl rfl ?_
          refine RL.off rfl rfl ?_
          refine RL.off rfl rfl ?_
          refine RL.ev (.pick_f rfl rfl) rfl rfl ?_
          refine RL.ev (.move rfl) rfl rfl ?_
          refine RL.ev (.move rfl) rfl rfl ?_
          refine RL.ev (.as (v' := .bool true) (.bin rfl rfl rfl) (congrArg Value.bool (decide_eq_true (hq2)))) rfl rfl ?_
          refine RL.ev (.move rfl) rfl rfl ?_
          refine RL.ev (.move rfl) rfl rfl ?_
          refine RL.ev (.move rfl) rfl rfl ?_
          refine RL.call rfl ok10 (c_ref20Fits k la lc _ rfl (by omega) q.1 a13 c13 _ (List.length_map _) hc13 (by rw [hq1, hrl]; omega) w12 (hsk.sub S) (hs13.sub S9)) rfl rfl ?_
          rintro _ w15 ⟨rfl, s16⟩
          have S := S.trans s16
          have S9 := S9.trans s16
          refine RL.ev (.as (v' := .bool true) (.bin rfl rfl rfl) (congrArg Value.bool (decide_eq_true (by rw [hq1]; exact hfr)))) rfl rfl ?_
          refine RL.ev (.pick_t rfl rfl) rfl rfl ?_
          refine RL.ev (.pick_f rfl rfl) rfl rfl ?_
          refine RL.ev (.pick_t rfl rfl) rfl rfl ?_
          refine RL.ev (.assign rfl) rfl rfl ?_
          refine RL.nil (RC.back ?_)
          refine RC.done (rs := [.tmp 2]) (vs := [_]) rfl rfl ⟨rfl, trivial⟩ ?_
          -- end 4
          exact ⟨rfl, S⟩
      ·
        refine RC.skip (RC.back ?_)
        refine RC.seq ?_
        refine RC.region rfl ?_
        refine RL.ev (.move rfl) rfl rfl ?_
        refine RL.call rfl ok11 (c_first k la lc (by omega) k.length [] none 0 w3 (by simp) (Nat.le_refl _) (hsk.sub S) (Sl.nil _ _ _)) rfl rfl ?_
        rintro _ w17 ⟨s18, a58, c58, rfl, hc58, hs58⟩
        have S := S.trans s18
        have S9 := S9.trans s18
        obtain ⟨want, hwant⟩ : ∃ x, x = firstM k k.length [] := ⟨_, rfl⟩
        rw [← hwant] at hs58
        rw [← hwant]
        rw [first_try g19 (Beg.nil k)] at hwant
        obtain ⟨W8, S8, hs58⟩ : ∃ W, Sub W w17 ∧ Sl W a58 1 (want.map fun x => [i6 x]) := ⟨_, Sub.refl _, hs58⟩
        refine RL.ev (.assign rfl) rfl rfl ?_
        refine RL.nil (RC.back ?_)
        refine RC.seq ?_
        refine RC.seq ?_
        refine RC.region rfl ?_
        refine RL.ev (.move rfl) rfl rfl ?_
        refine RL.ev (.len sl23 rfl) rfl rfl ?_
        refine RL.ev (.bin rfl rfl rfl) rfl rfl ?_
        refine RL.ev (.move rfl) rfl rfl ?_
        refine RL.split 62 rfl (fun h19 => ?_) (fun h19 => ?_)
        ·
          have h62 : want = [] := List.eq_nil_of_length_eq_zero (by have q := h19; rw [List.length_map] at q; omega)
          refine RL.ev (.move rfl) rfl rfl ?_
          refine RL.ev (.len sl22 rfl) rfl rfl ?_
          refine RL.ev (.bin rfl rfl rfl) rfl rfl ?_
          refine RL.ev (.pick_t rfl rfl) rfl rfl ?_
          refine RL.nil (RC.back ?_)
          refine RC.cond_dec rfl (fun h20 => ?_) (fun h20 => ?_)
          ·
            have h66 : 0 < k.length := (by have q := h20; omega)
            have hqn : q = ([], 3) := (by rcases hcs with ⟨e, _⟩ | ⟨r, e, ht, _, hrl⟩; exact e; rw [ht] at hwant; have : r = [] := (by rw [← h62, hwant]; rfl); rw [this] at hrl; exact absurd hrl (by simp; omega))
            refine RC.seq ?_
            refine RC.region rfl ?_
            refine RL.call rfl ok9 (c_alive20 w17) rfl rfl ?_
            rintro _ w21 ⟨rfl, s22⟩
            have S := S.trans s22
            have S9 := S9.trans s22
            have S8 := S8.trans s22
            refine RL.ev (.move rfl) rfl rfl ?_
            refine RL.ev (.move rfl) rfl rfl ?_
            refine RL.ev (.as (v' := .bool true) (.bin rfl rfl rfl) (congrArg Value.bool (decide_eq_true (by rw [hqn])))) rfl rfl ?_
            refine RL.ev (.pick_t rfl rfl) rfl rfl ?_
            refine RL.ev (.move rfl) rfl rfl ?_
            refine RL.ev (.move rfl) rfl rfl ?_
            refine RL.ev (.len sl23 rfl) rfl rfl ?_
            refine RL.ev (.as (v' := .bool true) (.bin rfl rfl rfl) (congrArg Value.bool (decide_eq_true (by rw [hqn]; rfl)))) rfl rfl ?_
            refine RL.ev (.pick_t rfl rfl) rfl rfl ?_
            refine RL.ev (.assign rfl) rfl rfl ?_
            refine RL.nil (RC.back ?_)
            refine RC.done (rs := [.tmp 2]) (vs := [_]) rfl rfl ⟨rfl, trivial⟩ ?_
            -- end 5
            exact ⟨rfl, S⟩
          ·
            have h66 : k.length = 0 := (by have q := h20; omega)
            have hq1 : q.1 = want ∧ q.2 = 0 := (by rw [h66] at hcs; rcases hcs with ⟨_, ht⟩ | ⟨r, e, ht, _⟩; cases ht; rw [e]; cases ht; exact ⟨h62.symm, rfl⟩)
            obtain ⟨hq1, hq2⟩ := hq1
            have hwl : q.1.length ≤ 10 := (by rw [hq1, h62]; simp)
            refine RC.skip (RC.back ?_)
            refine RC.seq ?_
            refine RC.region rfl ?_
            refine RL.call rfl ok9 (c_alive20 w17) rfl rfl ?_
            rintro _ w23 ⟨rfl, s24⟩
            have S := S.trans s24
            have S9 := S9.trans s24
            have S8 := S8.trans s24
            refine RL.ev (.move rfl) rfl rfl ?_
            refine RL.ev (.move rfl) rfl rfl ?_
            refine RL.ev (.as (v' := .bool true) (.bin rfl rfl rfl) (congrArg Value.bool (decide_eq_true (hq2)))) rfl rfl ?_
            refine RL.ev (.pick_t rfl rfl) rfl rfl ?_
            refine RL.ev (.move rfl) rfl rfl ?_
            refine RL.ev (.move rfl) rfl rfl ?_
            refine RL.ev (.move rfl) rfl rfl ?_
            refine RL.call rfl ok12 (FC.yes (c_same20 q.1 want a13 a58 c13 c58 _ _ (List.length_map _) (List.length_map _) w23 (hs13.sub S9) (hs58.sub S8) (by omega)) hq1) rfl rfl ?_
            rintro _ w25 ⟨rfl, s26⟩
            have S := S.trans s26
            have S9 := S9.trans s26
            have S8 := S8.trans s26
            refine RL.ev (.pick_t rfl rfl) rfl rfl ?_
            refine RL.ev (.assign rfl) rfl rfl ?_
            refine RL.nil (RC.back ?_)
            refine RC.done (rs := [.tmp 2]) (vs := [_]) rfl rfl ⟨rfl, trivial⟩ ?_
            -- end 6
            exact ⟨rfl, S⟩
        ·
          have h62 : ¬ want = [] := (fun e => h19 (by rw [e]; rfl))
          obtain ⟨r, e, ht, hfr, hrl⟩ := hcs.resolve_left (fun c => h62 (by rw [hwant, c.2]; rfl))
          rw [ht] at hwant
          have hq1 : q.1 = want := (by rw [e, hwant]; rfl)
          have hq2 : q.2 = 0 := (by rw [e])
          have hwl : q.1.length ≤ 10 := (by rw [hq1, hwant]; show r.length ≤ 10; omega)
          refine RL.off rfl rfl ?_
          refine RL.off rfl rfl ?_
          refine RL.off rfl rfl ?_
          refine RL.ev (.pick_f rfl rfl) rfl rfl ?_
          refine RL.nil (RC.back ?_)
          refine RC.cond_f rfl ?_
          refine RC.skip (RC.back ?_)
          refine RC.seq ?_
          refine RC.region rfl ?_
          refine RL.call rfl ok9 (c_alive20 w17) rfl rfl ?_
          rintro _ w27 ⟨rfl, s28⟩
          have S := S.trans s28
          have S9 := S9.trans s28
          have S8 := S8.trans s28
          refine RL.ev (.move rfl) rfl rfl ?_
          refine RL.ev (.move rfl) rfl rfl ?_
          refine RL.ev (.as (v' := .bool true) (.bin rfl rfl rfl) (congrArg Value.bool (decide_eq_true (hq2)))) rfl rfl ?_
          refine RL.ev (.pick_t rfl rfl) rfl rfl ?_
          refine RL.ev (.move rfl) rfl rfl ?_
          refine RL.ev (.move rfl) rfl rfl ?_
          refine RL.ev (.move rfl) rfl rfl ?_
          refine RL.call rfl ok12 (FC.yes (c_same20 q.1 want a13 a58 c13 c58 _ _ (List.length_map _) (List.length_map _) w27 (hs13.sub S9) (hs58.sub S8) (by omega)) hq1) rfl rfl ?_
          rintro _ w29 ⟨rfl, s30⟩
          have S := S.trans s30
          have S9 := S9.trans s30
          have S8 := S8.trans s30
          refine RL.ev (.pick_t rfl rfl) rfl rfl ?_
          refine RL.ev (.assign rfl) rfl rfl ?_
          refine RL.nil (RC.back ?_)
          refine RC.done (rs := [.tmp 2]) (vs := [_]) rfl rfl ⟨rfl, trivial⟩ ?_
          -- end 7
          exact ⟨rfl, S⟩
end Go.Proofs.Ytlhnnleaiinjaaa
