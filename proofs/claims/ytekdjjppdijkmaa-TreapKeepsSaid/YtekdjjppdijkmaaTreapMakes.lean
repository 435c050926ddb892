/-
  The statement TreapMakes.
-/
import Derived.Test.YtekdjjppdijkmaaTreapTells
set_option linter.unusedVariables false
set_option linter.unusedSimpArgs false
namespace Go.Proofs.Ytekdjjppdijkmaa
open Go Go.XL

/-- all nodes of an arena that are not free are as they were -/
theorem c_kept6 (A B : Ar) (na fa nb fb : Option Addr) (nc fc ncb fcb : Nat) (w : World) (hA : ArR w na fa A) (hB : ArR w nb fb B) (hE : Ext A B) (hok : AOk B) :
    FC Try.prog 38 [arV na fa nc fc A, arV nb fb ncb fcb B] w (Val (.bool true) w) := by
  have hAn := hA.nodes
  have hAf := hA.free
  have hBn := hB.nodes
  have hBf := hB.free
  have hlen := hE.len
  have hmost := hok.most
  refine FC.intro Try.func38 rfl Try.ntmps38 rfl ?_
  have S := Sub.refl w
  refine RC.seq ?_
  refine RC.region rfl ?_
  refine RL.box rfl rfl rfl (fun b_2 w_2 e_2 z_2 hb_2 s_2 => ?_)
  have ge_2 := S.le e_2
  have S := S.trans s_2
  have hb_2 : Has w_2 b_2 ([.slice na A.nodes.length nc, .slice fa A.free.length fc]) _ := hb_2
  refine RL.box rfl rfl rfl (fun b_3 w_3 e_3 z_3 hb_3 s_3 => ?_)
  have ge_3 := S.le e_3
  have n_2__3 := hb_2.ne e_3
  have S := S.trans s_3
  have hb_2 := hb_2.sub s_3
  have hb_3 : Has w_3 b_3 ([.slice nb B.nodes.length ncb, .slice fb B.free.length fcb]) _ := hb_3
  refine RL.ev (.assign rfl) rfl rfl ?_
  refine RL.nil (RC.back ?_)
  refine RC.seq ?_
  refine RC.seq ?_
  refine RC.region rfl ?_
  refine RL.ev (.field0 fo28_0 rfl) rfl rfl ?_
  refine RL.ev (.load1 sh25 rfl (hb_2.cell rfl)) rfl rfl ?_
  refine RL.ev (.len sl25 rfl) rfl rfl ?_
  refine RL.ev (.field0 fo28_0 rfl) rfl rfl ?_
  refine RL.ev (.load1 sh25 rfl (hb_3.cell rfl)) rfl rfl ?_
  refine RL.ev (.len sl25 rfl) rfl rfl ?_
  refine RL.ev (.as (v' := .bool false) (.bin rfl rfl rfl) (congrArg Value.bool (decide_eq_false (by omega)))) rfl rfl ?_
  refine RL.ev (.move rfl) rfl rfl ?_
  refine RL.ev (.loadR ([.slice nb B.nodes.length ncb, .slice fb B.free.length fcb]) sh28 rfl hb_3.row rfl) rfl rfl ?_
  refine RL.call rfl ok65 (c_aRight B nb fb ncb fcb w_3 (hB.sub S)) rfl rfl ?_
  rintro _ w1 ⟨rfl, s2⟩
  have S := S.trans s2
  have hb_2 := hb_2.sub s2
  have hb_3 := hb_3.sub s2
  refine RL.ev (.as (v' := .bool false) (.not rfl) (congrArg Value.bool (by rw [aokB_yes hok]; rfl))) rfl rfl ?_
  refine RL.ev (.pick_f rfl rfl) rfl rfl ?_
  refine RL.nil (RC.back ?_)
  refine RC.cond_f rfl ?_
  refine RC.skip (RC.back ?_)
  refine RC.seq ?_
  refine RC.seq ?_
  refine RC.region rfl ?_
  refine RL.ev (.field0 fo28_0 rfl) rfl rfl ?_
  refine RL.ev (.load1 sh25 rfl (hb_2.cell rfl)) rfl rfl ?_
  refine RL.ev (.len sl25 rfl) rfl rfl ?_
  refine RL.ev (.move rfl) rfl rfl ?_
  refine RL.nil (RC.back ?_)
  refine RC.block ?_
  refine RC.loop (α := Nat) (fun i => [(2, .pointer (some ⟨b_2, 0, none⟩)), (3, .pointer (some ⟨b_3, 0, none⟩)), (20, .slice na A.nodes.length nc), (21, .int .i64 (A.nodes.length : Int)), (22, .int .i64 (i : Int))]) (fun i w3 => i ≤ A.nodes.length ∧ Has w3 b_2 [.slice na A.nodes.length nc, .slice fa A.free.length fc] 28 ∧ Has w3 b_3 [.slice nb B.nodes.length ncb, .slice fb B.free.length fcb] 28 ∧ Sub w w3) (fun i => A.nodes.length - i) 0 (keep_of (by repeat (first | exact trivial | refine And.intro rfl ?_))) (⟨Nat.zero_le _, hb_2, hb_3, S⟩) (fun i w3 hJ => ?_)
  obtain ⟨hi, hb_2, hb_3, S⟩ := hJ
  refine RC.seq ?_
  refine RC.region rfl ?_
  refine RL.ev (.bin rfl rfl rfl) rfl rfl ?_
  refine RL.nil (RC.back ?_)
  refine RC.seq ?_
  refine RC.cond_dec rfl (fun h4 => ?_) (fun h4 => ?_)
  ·
    obtain ⟨x, hx⟩ := getSome (l := A.nodes) (i := i) (by omega)
    refine RC.skip (RC.back ?_)
    refine RC.seq ?_
    refine RC.block ?_
    refine RC.seq ?_
    refine RC.region rfl ?_
    refine RL.ev (.move rfl) rfl rfl ?_
    refine RL.ev (.indexS sl25 rfl rfl (by omega) (hAn.is (i := 0) (by simp only [List.length_map]; omega))) rfl rfl ?_
    refine RL.ev (.loadR (x.cells) sh78 rfl ((hAn.sub S).rowAt (enc := Node.cells) (i := i) hx) rfl) rfl rfl ?_
    refine RL.alloc ze78 rfl rfl (fun b_6 w_6 e_6 z_6 hb_6 s_6 => ?_)
    have ge_6 := S.le e_6
    have n_2__6 := hb_2.ne e_6
    have n_3__6 := hb_3.ne e_6
    have S := S.trans s_6
    have hb_2 := hb_2.sub s_6
    have hb_3 := hb_3.sub s_6
    refine RL.ev (.assign rfl) rfl rfl ?_
    refine RL.store sh78 rfl rfl rfl hb_6 (by exact Nat.le_of_ble_eq_true rfl) (by rfl) rfl (fun w5 z5 hb_6 a5 => ?_)
    have S := S.upd a5 ge_6
    have hb_2 := hb_2.upd a5 n_2__6
    have hb_3 := hb_3.upd a5 n_3__6
    have hb_6 : Has w5 b_6 (x.cells) _ := hb_6.now (by kernel_rfl)
    refine RL.nil (RC.back ?_)
    refine RC.seq ?_
    refine RC.draw rfl mxo (by kernel_rfl) ?_
    refine RQ.ev (.field0 fo78_0 rfl) rfl rfl ?_
    refine RQ.ev (.load1 sh3 rfl (hb_6.cell rfl)) rfl rfl ?_
    refine RQ.ev (.bin rfl rfl rfl) rfl rfl ?_
    refine RQ.ev (.move rfl) rfl rfl ?_
    refine RQ.split 30 rfl (fun h6 => ?_) (fun h6 => ?_)
    ·
      have hk : ¬ x.kind = 0 := h6
      have hy := hE.keep i x hx hk
      refine RQ.ev (.field0 fo28_0 rfl) rfl rfl ?_
      refine RQ.ev (.load1 sh25 rfl (hb_3.cell rfl)) rfl rfl ?_
      refine RQ.ev (.move rfl) rfl rfl ?_
      refine RQ.ev (.indexS sl25 rfl rfl (by omega) (hBn.is (i := 0) (by simp only [List.length_map]; omega))) rfl rfl ?_
      refine RQ.ev (.loadR (x.cells) sh78 rfl ((hBn.sub S).rowAt (enc := Node.cells) (i := i) hy) rfl) rfl rfl ?_
      refine RQ.ev (.loadR (x.cells) sh78 rfl hb_6.row rfl) rfl rfl ?_
      refine RQ.ev (.as (v' := .bool false) (.neS (xs := x.cells) (ys := x.cells) fk78 eg78 sh78 rfl rfl rfl rfl rfl) (congrArg Value.bool (by rw [eqL_cells]; simp))) rfl rfl ?_
      refine RQ.ev (.pick_t rfl rfl) rfl rfl ?_
      refine RQ.nil (fun w7 s8 => RC.back ?_)
      have S := S.trans s8
      have hb_2 := hb_2.sub s8
      have hb_3 := hb_3.sub s8
      have hb_6 := hb_6.sub s8
      refine RC.cond_f rfl ?_
      refine RC.skip (RC.back ?_)
      refine RC.region rfl ?_
      refine RL.ev (.as (.bin rfl rfl rfl) (wi64 (y := ((i + 1 : Nat) : Int)) (by omega) (by omega))) rfl rfl ?_
      refine RL.ev (.move rfl) rfl rfl ?_
      exact RL.nil (fun a ka => ⟨i + 1, ⟨by omega, hb_2, hb_3, S⟩, by omega, ka.keep (keep_of (by repeat (first | exact trivial | refine And.intro rfl ?_)))⟩)
    ·
      refine RQ.off rfl rfl ?_
      refine RQ.off rfl rfl ?_
      refine RQ.off rfl rfl ?_
      refine RQ.off rfl rfl ?_
      refine RQ.off rfl rfl ?_
      refine RQ.off rfl rfl ?_
      refine RQ.off rfl rfl ?_
      refine RQ.ev (.pick_f rfl rfl) rfl rfl ?_
      refine RQ.nil (fun w9 s10 => RC.back ?_)
      have S := S.trans s10
      have hb_2 := hb_2.sub s10
      have hb_3 := hb_3.sub s10
      have hb_6 := hb_6.sub s10
      refine RC.cond_f rfl ?_
      refine RC.skip (RC.back ?_)
      refine RC.region rfl ?_
      refine RL.ev (.as (.bin rfl rfl rfl) (wi64 (y := ((i + 1 : Nat) : Int)) (by omega) (by omega))) rfl rfl ?_
      refine RL.ev (.move rfl) rfl rfl ?_
      exact RL.nil (fun a ka => ⟨i + 1, ⟨by omega, hb_2, hb_3, S⟩, by omega, ka.keep (keep_of (by repeat (first | exact trivial | refine And.intro rfl ?_)))⟩)
  ·
    refine RC.exit rfl (RC.back ?_)
    refine RC.seq ?_
    refine RC.region rfl ?_
    refine RL.ev (.assign rfl) rfl rfl ?_
    refine RL.nil (RC.back ?_)
    refine RC.done (rs := [.tmp 4]) (vs := [_]) rfl rfl ⟨rfl, trivial⟩ ?_
    -- end 1
    exact ⟨rfl, S⟩
/-! ### the parts of a row -/
theorem ltge_app {L : List It} (h : Srt L) (key : Int) : ltL key L ++ geL key L = L := by
  induction L with
  | nil => rfl
  | cons x L ih =>
    obtain ⟨h1, h2⟩ := List.pairwise_cons.1 h
    by_cases q : x.k < key
    · have e1 : ltL key (x :: L) = x :: ltL key L := by unfold ltL; rw [List.filter_cons, if_pos (by simpa using q)]
      have e2 : geL key (x :: L) = geL key L := by unfold geL; rw [List.filter_cons, if_neg (by simp; omega)]
      rw [e1, e2, List.cons_append, ih h2]
    · have e1 : ltL key (x :: L) = [] := by
        refine filter_none fun y hy => ?_
        rcases List.mem_cons.1 hy with rfl | hy
        · simpa using q
        · have := h1 y hy; simp; omega
      have e2 : geL key (x :: L) = x :: L := by
        refine filter_all fun y hy => ?_
        rcases List.mem_cons.1 hy with rfl | hy
        · simp; omega
        · have := h1 y hy; simp; omega
      rw [e1, e2, List.nil_append]
theorem ltge_drop {L : List It} (h : Srt L) (key : Int) : L.drop (ltL key L).length = geL key L := by
  have := ltge_app h key
  calc L.drop (ltL key L).length = (ltL key L ++ geL key L).drop (ltL key L).length := by rw [this]
    _ = geL key L := by rw [List.drop_left]
theorem ltge_len {L : List It} (h : Srt L) (key : Int) : (ltL key L).length + (geL key L).length = L.length := by
  rw [← List.length_append, ltge_app h]
theorem ltge_lt2 (L : List It) (key : Int) : Lt2 (ltL key L) (geL key L) := by
  intro x hx y hy
  have h1 := (List.mem_filter.1 hx).2
  have h2 := (List.mem_filter.1 hy).2
  simp at h1 h2; omega
theorem gelt_bad {L : List It} {key : Int} (h1 : 0 < (ltL key L).length) (h2 : 0 < (geL key L).length) : BadJ (geL key L) (ltL key L) := by
  refine ⟨h2, h1, .inl fun h => ?_⟩
  obtain ⟨x, hx⟩ := List.exists_mem_of_length_pos h1
  obtain ⟨y, hy⟩ := List.exists_mem_of_length_pos h2
  have := h y hy x hx
  have := ltge_lt2 L key x hx y hy
  omega
theorem put_size {L : List It} (h : Srt L) (key v : Int) : L.length ≤ (putL L key v).length := by
  rw [← putR_putL h, putR_size h]; omega
theorem put_two {A B : Ar} {r key v r' e : Int} {L : List It} (h : PutP A r key v B r' e) (hm : isMap A r) (hL : IsT A r L) :
    (BadK L key → e = 5 ∧ r' = 0) ∧ (¬ BadK L key → e = 2 ∧ A.free.length < L.length + 1 ∨ e = 0 ∧ Ext A B ∧ AOk B ∧ A.free.length ≤ B.free.length + (L.length + 1) ∧ IsT B r' (putL L key v)) := by
  obtain ⟨_, h2, h3⟩ := h
  refine ⟨fun hb => ?_, fun hb => ?_⟩
  · rcases h3 L hm hL with h | h | h
    · exact ⟨h.2, (h2 (by omega)).2⟩
    · exact absurd hb h.1
    · exact absurd hb h.1
  · rcases h3 L hm hL with h | h | h
    · exact absurd h.1 hb
    · exact .inl h.2
    · exact .inr h.2
theorem del_two {A B : Ar} {r key r' e : Int} {L : List It} (h : DelP A r key B r' e) (hm : isMap A r) (hL : IsT A r L) :
    ((∀ x ∈ L, ¬ x.k = key) → e = 3 ∧ r' = 0) ∧ ((∃ x ∈ L, x.k = key) → e = 2 ∧ A.free.length < L.length - 1 ∨ e = 0 ∧ Ext A B ∧ AOk B ∧ A.free.length ≤ B.free.length + (L.length - 1) ∧ IsT B r' (delL L key)) := by
  obtain ⟨_, h2, h3⟩ := h
  refine ⟨fun hb => ?_, fun hb => ?_⟩
  · rcases h3 L hm hL with h | h | h
    · exact ⟨h.2, (h2 (by omega)).2⟩
    · obtain ⟨x, hx, e⟩ := h.1; exact absurd e (hb x hx)
    · obtain ⟨x, hx, e⟩ := h.1; exact absurd e (hb x hx)
  · rcases h3 L hm hL with h | h | h
    · obtain ⟨x, hx, e⟩ := hb; exact absurd e (h.1 x hx)
    · exact .inl h.2
    · exact .inr h.2
theorem join_good {A B : Ar} {a b r' e : Int} {L R : List It} (h : JoinP A a b B r' e) (ha : isMap A a) (hb : isMap A b) (hL : IsT A a L) (hR : IsT A b R) (hn : ¬ BadJ L R) : e = 2 ∧ A.free.length < L.length + R.length ∨ e = 0 ∧ Ext A B ∧ AOk B ∧ A.free.length ≤ B.free.length + (L.length + R.length) ∧ IsT B r' (L ++ R) := by
  rcases h.2.2 L R ha hb hL hR with h | h | h
  · exact absurd h.1 hn
  · exact .inl h.2
  · exact .inr h.2
theorem join_bad {A B : Ar} {a b r' e : Int} {L R : List It} (h : JoinP A a b B r' e) (ha : isMap A a) (hb : isMap A b) (hL : IsT A a L) (hR : IsT A b R) (hn : BadJ L R) : e = 5 := by
  rcases h.2.2 L R ha hb hL hR with h | h | h
  · exact h.2
  · exact absurd hn h.1
  · exact absurd hn h.1
set_option maxHeartbeats 4000000 in
theorem law_TreapMakes (w : World) (A0 : Ar) (na fa : Option Addr) (nc fc : Nat) (hnc0 : A0.nodes.length ≤ nc) (hfc0 : A0.free.length ≤ fc) (hA0 : ArR w na fa A0) (r : Int) (wr : (Lit.int .u64 r).wf = true) (key : Int) (wk : (Lit.int .i64 key).wf = true) (v : Int) (wv : (Lit.int .i64 v).wf = true) :
    FC Try.prog 12 [arV na fa nc fc A0, .int .u64 r, .int .i64 key, .int .i64 v] w (Val (.bool true) w) := by
  have hr := wfU wr
  have hk := wfI wk
  have hv := wfI wv
  have hA := few60_R hA0
  have hn60 : (few60 A0).nodes.length ≤ 60 := by simp only [few60, List.length_take]; omega
  have hf62 : (few60 A0).free.length ≤ 62 := by simp only [few60, List.length_take]; omega
  have hnc : (few60 A0).nodes.length ≤ nc := by simp only [few60, List.length_take]; omega
  have hfc : (few60 A0).free.length ≤ fc := by simp only [few60, List.length_take]; omega
  obtain ⟨A, hAe⟩ : ∃ A, few60 A0 = A := ⟨_, rfl⟩
  rw [hAe] at hA hn60 hnc hfc hf62
  have hrow := isMap_row (A := A) (r := r)
  obtain ⟨L, hL⟩ : ∃ L, rowF A 202 r 201 = L := ⟨_, rfl⟩
  rw [hL] at hrow
  have hF : Ft (· < w.heap.size) (fun u => ArR u na fa A) w := Ft.of_sub fun u s => hA.sub s
  refine FC.intro Try.func12 rfl Try.ntmps12 rfl ?_
  have S := Sub.refl w
  refine RC.seq ?_
  refine RC.region rfl ?_
  refine RL.box rfl rfl rfl (fun b_4 w_4 e_4 z_4 hb_4 s_4 => ?_)
  have ge_4 := S.le e_4
  have S := S.trans s_4
  have hb_4 : Has w_4 b_4 ([.slice na A0.nodes.length nc, .slice fa A0.free.length fc]) _ := hb_4
  refine RL.ev (.assign rfl) rfl rfl ?_
  refine RL.nil (RC.back ?_)
  refine RC.seq ?_
  refine RC.region rfl ?_
  refine RL.ev (.loadR ([.slice na A0.nodes.length nc, .slice fa A0.free.length fc]) sh28 rfl hb_4.row rfl) rfl rfl ?_
  refine RL.call rfl ok35 ((hAe ▸ c_few6 A0 na fa nc fc hnc0 hfc0 w_4)) rfl rfl ?_
  rintro _ w1 ⟨rfl, s2⟩
  have S := S.trans s2
  have hb_4 := hb_4.sub s2
  refine RL.store sh28 rfl rfl rfl hb_4 (by exact Nat.le_of_ble_eq_true rfl) (by rfl) rfl (fun w3 z3 hb_4 a3 => ?_)
  have S := S.upd a3 ge_4
  have hb_4 : Has w3 b_4 ([.slice na A.nodes.length nc, .slice fa A.free.length fc]) _ := hb_4.now (by kernel_rfl)
  refine RL.nil (RC.back ?_)
  refine RC.seq ?_
  refine RC.seq ?_
  refine RC.region rfl ?_
  refine RL.ev (.loadR ([.slice na A.nodes.length nc, .slice fa A.free.length fc]) sh28 rfl hb_4.row rfl) rfl rfl ?_
  refine RL.ev (.move rfl) rfl rfl ?_
  refine RL.call rfl ok23 (c_refRight6 A na fa nc fc (by omega) r hr w3 (hA.sub S)) rfl rfl ?_
  rintro _ w4 ⟨rfl, s5⟩
  have S := S.trans s5
  have hb_4 := hb_4.sub s5
  refine RL.ev (.not rfl) rfl rfl ?_
  refine RL.nil (RC.back ?_)
  refine RC.cond rfl (fun h6 => ?_) (fun h6 => ?_)
  ·
    refine RC.seq ?_
    refine RC.region rfl ?_
    refine RL.call rfl ok28 (c_alive6 w4) rfl rfl ?_
    rintro _ w7 ⟨rfl, s8⟩
    have S := S.trans s8
    have hb_4 := hb_4.sub s8
    refine RL.ev (.assign rfl) rfl rfl ?_
    refine RL.nil (RC.back ?_)
    refine RC.done (rs := [.tmp 8]) (vs := [_]) rfl rfl ⟨rfl, trivial⟩ ?_
    -- end 1
    exact ⟨rfl, S⟩
  ·
    have hmap : isMap A r := (isMapB_iff A r).1 (by simpa using h6)
    obtain ⟨hT, hL200⟩ := hrow hmap
    have hLs := hT.srt
    have hAok := hmap.1
    have hll := ltge_len hLs key
    have hps := put_size hLs key v
    have hpl := putL_len (key := key) (v := v) hLs
    refine RC.skip (RC.back ?_)
    refine RC.seq ?_
    refine RC.region rfl ?_
    refine RL.ev (.loadR ([.slice na A.nodes.length nc, .slice fa A.free.length fc]) sh28 rfl hb_4.row rfl) rfl rfl ?_
    refine RL.ev (.move rfl) rfl rfl ?_
    refine RL.call rfl ok24 (c_refRow A na fa nc fc (by omega) 202 r 201 w4 hr (by decide) (by decide) (by decide) (hA.sub S)) rfl rfl ?_
    rintro vr w9 ⟨ra, rc, hvr, o1, s10⟩
    have S := S.trans s10
    have hb_4 := hb_4.sub s10
    rw [hL] at hvr o1
    subst hvr
    have hrc : L.length ≤ rc := (by obtain ⟨_, c', e, h⟩ := o1.form; cases e; rw [List.length_map] at h; exact h)
    obtain ⟨W1, S1, hl⟩ : ∃ W1, Sub W1 w9 ∧ Sl W1 ra 2 (L.map It.cells) := ⟨_, Sub.refl _, o1.sl.1⟩
    refine RL.ev (.assign rfl) rfl rfl ?_
    refine RL.nil (RC.back ?_)
    refine RC.seq ?_
    refine RC.region rfl ?_
    refine RL.ev (.loadR ([.slice na A.nodes.length nc, .slice fa A.free.length fc]) sh28 rfl hb_4.row rfl) rfl rfl ?_
    refine RL.ev (.move rfl) rfl rfl ?_
    refine RL.ev (.move rfl) rfl rfl ?_
    refine RL.ev (.move rfl) rfl rfl ?_
    refine RL.call rfl ok27 (c_tput A na fa nc fc hnc hfc r key v hr hk hv _ w9 (hF.sub S)) rfl rfl ?_
    rintro _ w11 ⟨s12, na1, fa1, nc1, fc1, B1, r1, e1, M1, rfl, hu1, hnc1, hfc1, hA1, _, hp1⟩
    have S := S.trans s12
    have hb_4 := hb_4.sub s12
    have S1 := S1.trans s12
    have hP1 := put_two hp1 hmap hT
    obtain ⟨W2, S2, hA1⟩ : ∃ W2, Sub W2 w11 ∧ ArR W2 na1 fa1 B1 := ⟨_, Sub.refl _, hA1.now⟩
    refine RL.ev (.move rfl) rfl rfl ?_
    refine RL.ev (.extract rfl rfl) rfl rfl ?_
    refine RL.ev (.extract rfl rfl) rfl rfl ?_
    refine RL.ev (.extract rfl rfl) rfl rfl ?_
    refine RL.alloc ze28 rfl rfl (fun b_10 w_10 e_10 z_10 hb_10 s_10 => ?_)
    have ge_10 := S.le e_10
    have n_4__10 := hb_4.ne e_10
    have S := S.trans s_10
    have hb_4 := hb_4.sub s_10
    have geS1_10 := S1.le e_10
    have S1 := S1.trans s_10
    have geS2_10 := S2.le e_10
    have S2 := S2.trans s_10
    refine RL.store sh28 rfl rfl rfl hb_10 (by exact Nat.le_of_ble_eq_true rfl) (by rfl) rfl (fun w13 z13 hb_10 a13 => ?_)
    have S := S.upd a13 ge_10
    have hb_4 := hb_4.upd a13 n_4__10
    have S1 := S1.upd a13 geS1_10
    have S2 := S2.upd a13 geS2_10
    have hb_10 : Has w13 b_10 ([.slice na1 B1.nodes.length nc1, .slice fa1 B1.free.length fc1]) _ := hb_10.now (by kernel_rfl)
    refine RL.ev (.assign rfl) rfl rfl ?_
    refine RL.ev (.assign rfl) rfl rfl ?_
    refine RL.nil (RC.back ?_)
    refine RC.seq ?_
    refine RC.region rfl ?_
    refine RL.ev (.loadR ([.slice na A.nodes.length nc, .slice fa A.free.length fc]) sh28 rfl hb_4.row rfl) rfl rfl ?_
    refine RL.ev (.move rfl) rfl rfl ?_
    refine RL.ev (.move rfl) rfl rfl ?_
    refine RL.call rfl ok30 (c_tdel A na fa nc fc hnc hfc r key hr hk _ w13 (hF.sub S)) rfl rfl ?_
    rintro _ w14 ⟨s15, na2, fa2, nc2, fc2, B2, r2, e2, M2, rfl, hu2, hnc2, hfc2, hA2, _, hp2⟩
    have S := S.trans s15
    have hb_4 := hb_4.sub s15
    have S1 := S1.trans s15
    have S2 := S2.trans s15
    have hb_10 := hb_10.sub s15
    have hP2 := del_two hp2 hmap hT
    obtain ⟨W3, S3, hA2⟩ : ∃ W3, Sub W3 w14 ∧ ArR W3 na2 fa2 B2 := ⟨_, Sub.refl _, hA2.now⟩
    refine RL.ev (.move rfl) rfl rfl ?_
    refine RL.ev (.extract rfl rfl) rfl rfl ?_
    refine RL.ev (.extract rfl rfl) rfl rfl ?_
    refine RL.ev (.extract rfl rfl) rfl rfl ?_
    refine RL.alloc ze28 rfl rfl (fun b_13 w_13 e_13 z_13 hb_13 s_13 => ?_)
    have ge_13 := S.le e_13
    have n_4__13 := hb_4.ne e_13
    have n_10__13 := hb_10.ne e_13
    have S := S.trans s_13
    have hb_4 := hb_4.sub s_13
    have geS1_13 := S1.le e_13
    have S1 := S1.trans s_13
    have geS2_13 := S2.le e_13
    have S2 := S2.trans s_13
    have hb_10 := hb_10.sub s_13
    have geS3_13 := S3.le e_13
    have S3 := S3.trans s_13
    refine RL.store sh28 rfl rfl rfl hb_13 (by exact Nat.le_of_ble_eq_true rfl) (by rfl) rfl (fun w16 z16 hb_13 a16 => ?_)
    have S := S.upd a16 ge_13
    have hb_4 := hb_4.upd a16 n_4__13
    have S1 := S1.upd a16 geS1_13
    have S2 := S2.upd a16 geS2_13
    have hb_10 := hb_10.upd a16 n_10__13
    have S3 := S3.upd a16 geS3_13
    have hb_13 : Has w16 b_13 ([.slice na2 B2.nodes.length nc2, .slice fa2 B2.free.length fc2]) _ := hb_13.now (by kernel_rfl)
    refine RL.ev (.assign rfl) rfl rfl ?_
    refine RL.ev (.assign rfl) rfl rfl ?_
    refine RL.nil (RC.back ?_)
    refine RC.seq ?_
    refine RC.region rfl ?_
    refine RL.ev (.loadR ([.slice na A.nodes.length nc, .slice fa A.free.length fc]) sh28 rfl hb_4.row rfl) rfl rfl ?_
    refine RL.ev (.move rfl) rfl rfl ?_
    refine RL.ev (.move rfl) rfl rfl ?_
    refine RL.call rfl ok33 (c_tsplit A na fa nc fc hnc hfc r key hr hk _ w16 (hF.sub S)) rfl rfl ?_
    rintro _ w17 ⟨s18, na3, fa3, nc3, fc3, B3, r3, r4, e3, M3, rfl, hu3, hu4, hnc3, hfc3, hA3, _, _, _, hP3⟩
    have S := S.trans s18
    have hb_4 := hb_4.sub s18
    have S1 := S1.trans s18
    have S2 := S2.trans s18
    have hb_10 := hb_10.sub s18
    have S3 := S3.trans s18
    have hb_13 := hb_13.sub s18
    have hP3 := hP3 L hmap hT
    obtain ⟨W4, S4, hA3⟩ : ∃ W4, Sub W4 w17 ∧ ArR W4 na3 fa3 B3 := ⟨_, Sub.refl _, hA3.now⟩
    refine RL.ev (.move rfl) rfl rfl ?_
    refine RL.ev (.extract rfl rfl) rfl rfl ?_
    refine RL.ev (.extract rfl rfl) rfl rfl ?_
    refine RL.ev (.extract rfl rfl) rfl rfl ?_
    refine RL.ev (.extract rfl rfl) rfl rfl ?_
    refine RL.alloc ze28 rfl rfl (fun b_16 w_16 e_16 z_16 hb_16 s_16 => ?_)
    have ge_16 := S.le e_16
    have n_4__16 := hb_4.ne e_16
    have n_10__16 := hb_10.ne e_16
    have n_13__16 := hb_13.ne e_16
    have S := S.trans s_16
    have hb_4 := hb_4.sub s_16
    have geS1_16 := S1.le e_16
    have S1 := S1.trans s_16
    have geS2_16 := S2.le e_16
    have S2 := S2.trans s_16
    have hb_10 := hb_10.sub s_16
    have geS3_16 := S3.le e_16
    have S3 := S3.trans s_16
    have hb_13 := hb_13.sub s_16
    have geS4_16 := S4.le e_16
    have S4 := S4.trans s_16
    refine RL.store sh28 rfl rfl rfl hb_16 (by exact Nat.le_of_ble_eq_true rfl) (by rfl) rfl (fun w19 z19 hb_16 a19 => ?_)
    have S := S.upd a19 ge_16
    have hb_4 := hb_4.upd a19 n_4__16
    have S1 := S1.upd a19 geS1_16
    have S2 := S2.upd a19 geS2_16
    have hb_10 := hb_10.upd a19 n_10__16
    have S3 := S3.upd a19 geS3_16
    have hb_13 := hb_13.upd a19 n_13__16
    have S4 := S4.upd a19 geS4_16
    have hb_16 : Has w19 b_16 ([.slice na3 B3.nodes.length nc3, .slice fa3 B3.free.length fc3]) _ := hb_16.now (by kernel_rfl)
    refine RL.ev (.assign rfl) rfl rfl ?_
    refine RL.ev (.assign rfl) rfl rfl ?_
    refine RL.ev (.assign rfl) rfl rfl ?_
    refine RL.nil (RC.back ?_)
    refine RC.seq ?_
    refine RC.region rfl ?_
    refine RL.ev (.move rfl) rfl rfl ?_
    refine RL.ev (.as (v' := .int .i64 (L.length : Int)) (.len sl23 rfl) (by rw [List.length_map])) rfl rfl ?_
    refine RL.ev (.assign rfl) rfl rfl ?_
    refine RL.nil (RC.back ?_)
    refine RC.seq ?_
    refine RC.drawD (fun k => False) [] w19.heap.size 12 rfl rfl mxo (fun w20 s21 => ?_)
    have hNN : ∀ k, ((False) ∨ w19.heap.size ≤ k) → w.heap.size ≤ k := fun k e => e.elim (fun e => e.elim) (fun e => Nat.le_trans S.size e)
    have ent_S := S.size
    have ent_S1 := S1.size
    have ent_S2 := S2.size
    have ent_S3 := S3.size
    have ent_S4 := S4.size
    have hN0 : ∀ k, w19.heap.size ≤ k → w.heap.size ≤ k := fun k e => Nat.le_trans S.size e
    have ltD_b_4 := hb_4.lt
    have ltD_b_10 := hb_10.lt
    have ltD_b_13 := hb_13.lt
    have ltD_b_16 := hb_16.lt
    have szD := Nat.le_refl w19.heap.size
    have S := S.trans s21
    have hb_4 := hb_4.sub s21
    have S1 := S1.trans s21
    have S2 := S2.trans s21
    have hb_10 := hb_10.sub s21
    have S3 := S3.trans s21
    have hb_13 := hb_13.sub s21
    have S4 := S4.trans s21
    have hb_16 := hb_16.sub s21
    have szD := Nat.le_trans szD s21.size
    refine RD.take 0 rfl (by kernel_rfl) (by kernel_rfl) (by kernel_rfl) (fun w' s' => .move rfl) rfl rfl ?_
    refine RD.take 1 rfl (by kernel_rfl) (by kernel_rfl) (by kernel_rfl) (fun w' s' => .move rfl) rfl rfl ?_
    refine RD.take 3 rfl (by kernel_rfl) (by kernel_rfl) (by kernel_rfl) (fun w' s' => .field0 fo28_1 rfl) rfl rfl ?_
    refine RD.take 4 rfl (by kernel_rfl) (by kernel_rfl) (by kernel_rfl) (fun w' s' => .load1 sh26 rfl ((hb_4.step s' (fun e => e.elim (fun e => e.elim) (fun e => Nat.not_le.2 ltD_b_4 e))).cell rfl)) rfl rfl ?_
    refine RD.take 5 rfl (by kernel_rfl) (by kernel_rfl) (by kernel_rfl) (fun w' s' => .len sl26 rfl) rfl rfl ?_
    refine RD.take 6 rfl (by kernel_rfl) (by kernel_rfl) (by kernel_rfl) (fun w' s' => .move rfl) rfl rfl ?_
    refine RD.take 7 rfl (by kernel_rfl) (by kernel_rfl) (by kernel_rfl) (fun w' s' => .as (.bin rfl rfl rfl) (wi64 (y := (2 * L.length : Int)) (by omega) (by omega))) rfl rfl ?_
    refine RD.take 8 rfl (by kernel_rfl) (by kernel_rfl) (by kernel_rfl) (fun w' s' => .as (.bin rfl rfl rfl) (wi64 (y := (2 * L.length + 1 : Int)) (by omega) (by omega))) rfl rfl ?_
    refine RD.take 9 rfl (by kernel_rfl) (by kernel_rfl) (by kernel_rfl) (fun w' s' => .bin rfl rfl rfl) rfl rfl ?_
    refine RD.all [2] (by kernel_rfl) rfl (RDs.cons rfl ?_ (RDs.nil))
    refine RL.call rfl ok25 (c_refBelow L ra rc _ (List.length_map _) key w20 (hl.sub S1) (by omega)) rfl rfl ?_
    rintro _ w22 ⟨ba, bc, rfl, o3, s23⟩
    have S := S.trans s23
    have hb_4 := hb_4.sub s23
    have S1 := S1.trans s23
    have S2 := S2.trans s23
    have hb_10 := hb_10.sub s23
    have S3 := S3.trans s23
    have hb_13 := hb_13.sub s23
    have S4 := S4.trans s23
    have hb_16 := hb_16.sub s23
    have szD := Nat.le_trans szD s23.size
    have hbc : (ltL key L).length ≤ bc := (by obtain ⟨_, c', e, h⟩ := o3.form; cases e; rw [List.length_map] at h; exact h)
    obtain ⟨W5, S5, hlw⟩ : ∃ W5, Sub W5 w22 ∧ Sl W5 ba 2 ((ltL key L).map It.cells) := ⟨_, Sub.refl _, o3.sl.1⟩
    refine RD.back s23.agr ?_
    refine RD.take 10 rfl (by kernel_rfl) (by kernel_rfl) (by kernel_rfl) (fun w' s' => .assign rfl) rfl rfl ?_
    refine RD.take 11 rfl (by kernel_rfl) (by kernel_rfl) (by kernel_rfl) (fun w' s' => .assign rfl) rfl rfl ?_
    refine RD.done (by kernel_rfl) (RC.back ?_)
    refine RC.cutx (α := Unit) (fun _ => [(1, .int .u64 r), (2, .int .i64 key), (3, .int .i64 v), (4, .pointer (some ⟨b_4, 0, none⟩)), (9, .slice ra (L.map It.cells).length rc), (13, .pointer (some ⟨b_13, 0, none⟩)), (14, .int .u64 r2), (15, .int .i64 e2), (16, .pointer (some ⟨b_16, 0, none⟩)), (17, .int .u64 r3), (18, .int .u64 r4), (19, .int .i64 e3), (20, .int .i64 (L.length : Int)), (21, .slice ba ((ltL key L).map It.cells).length bc), (22, .bool (decide ((A.free.length : Int) < 2 * L.length + 1)))]) (fun _ w24 => Has w24 b_4 [.slice na A.nodes.length nc, .slice fa A.free.length fc] 28 ∧ Has w24 b_13 [.slice na2 B2.nodes.length nc2, .slice fa2 B2.free.length fc2] 28 ∧ Has w24 b_16 [.slice na3 B3.nodes.length nc3, .slice fa3 B3.free.length fc3] 28 ∧ Sub W1 w24 ∧ Sub W3 w24 ∧ Sub W4 w24 ∧ Sub W5 w24 ∧ Sub w w24) ?_ (fun _ w24 hJ => ?_)
    ·
      refine RC.seq ?_
      refine RC.region rfl ?_
      refine RL.ev (.move rfl) rfl rfl ?_
      refine RL.ev (.bin rfl rfl rfl) rfl rfl ?_
      refine RL.ev (.move rfl) rfl rfl ?_
      refine RL.split 80 rfl (fun h25 => ?_) (fun h25 => ?_)
      ·
        have hbad : BadK L key := .inl h25
        have hz1 := hP1.1 hbad
        refine RL.off rfl rfl ?_
        refine RL.off rfl rfl ?_
        refine RL.ev (.pick_t rfl rfl) rfl rfl ?_
        refine RL.ev (.move rfl) rfl rfl ?_
        refine RL.off rfl rfl ?_
        refine RL.off rfl rfl ?_
        refine RL.off rfl rfl ?_
        refine RL.off rfl rfl ?_
        refine RL.off rfl rfl ?_
        refine RL.off rfl rfl ?_
        refine RL.off rfl rfl ?_
        refine RL.off rfl rfl ?_
        refine RL.off rfl rfl ?_
        refine RL.ev (.pick_t rfl rfl) rfl rfl ?_
        refine RL.nil (RC.back ?_)
        refine RC.cond_t rfl ?_
        refine RC.seq ?_
        refine RC.region rfl ?_
        refine RL.ev (.move rfl) rfl rfl ?_
        refine RL.ev (.as (v' := .bool false) (.bin rfl rfl rfl) (congrArg Value.bool (decide_eq_false (fun h => h hz1.1)))) rfl rfl ?_
        refine RL.ev (.move rfl) rfl rfl ?_
        refine RL.ev (.move rfl) rfl rfl ?_
        refine RL.ev (.as (v' := .bool false) (.bin rfl rfl rfl) (congrArg Value.bool (decide_eq_false (fun h => h hz1.2)))) rfl rfl ?_
        refine RL.ev (.pick_f rfl rfl) rfl rfl ?_
        refine RL.nil (RC.back ?_)
        refine RC.cond_f rfl ?_
        exact RC.skip (fun a ka => ⟨(), ⟨hb_4, hb_13, hb_16, S1, S3, S4, S5, S⟩, ka.keep (keep_of (by repeat (first | exact trivial | refine And.intro rfl ?_)))⟩)
      ·
        have h80 := h25
        refine RL.ev (.move rfl) rfl rfl ?_
        refine RL.ev (.bin rfl rfl rfl) rfl rfl ?_
        refine RL.ev (.pick_f rfl rfl) rfl rfl ?_
        refine RL.ev (.move rfl) rfl rfl ?_
        refine RL.split 84 rfl (fun h26 => ?_) (fun h26 => ?_)
        ·
          have hbad : BadK L key := .inr (.inl h26)
          have hz1 := hP1.1 hbad
          refine RL.off rfl rfl ?_
          refine RL.off rfl rfl ?_
          refine RL.off rfl rfl ?_
          refine RL.off rfl rfl ?_
          refine RL.off rfl rfl ?_
          refine RL.off rfl rfl ?_
          refine RL.off rfl rfl ?_
          refine RL.off rfl rfl ?_
          refine RL.off rfl rfl ?_
          refine RL.ev (.pick_t rfl rfl) rfl rfl ?_
          refine RL.nil (RC.back ?_)
          refine RC.cond_t rfl ?_
          refine RC.seq ?_
          refine RC.region rfl ?_
          refine RL.ev (.move rfl) rfl rfl ?_
          refine RL.ev (.as (v' := .bool false) (.bin rfl rfl rfl) (congrArg Value.bool (decide_eq_false (fun h => h hz1.1)))) rfl rfl ?_
          refine RL.ev (.move rfl) rfl rfl ?_
          refine RL.ev (.move rfl) rfl rfl ?_
          refine RL.ev (.as (v' := .bool false) (.bin rfl rfl rfl) (congrArg Value.bool (decide_eq_false (fun h => h hz1.2)))) rfl rfl ?_
          refine RL.ev (.pick_f rfl rfl) rfl rfl ?_
          refine RL.nil (RC.back ?_)
          refine RC.cond_f rfl ?_
          exact RC.skip (fun a ka => ⟨(), ⟨hb_4, hb_13, hb_16, S1, S3, S4, S5, S⟩, ka.keep (keep_of (by repeat (first | exact trivial | refine And.intro rfl ?_)))⟩)
        ·
          have h84 := h26
          refine RL.ev (.move rfl) rfl rfl ?_
          refine RL.ev (.move rfl) rfl rfl ?_
          refine RL.call rfl ok17 (c_refAt6 L ra rc _ (List.length_map _) key w22 (hl.sub S1) (by omega)) rfl rfl ?_
          rintro _ w27 ⟨s28, n1, rfl, hn1⟩
          have S := S.trans s28
          have hb_4 := hb_4.sub s28
          have S1 := S1.trans s28
          have S2 := S2.trans s28
          have hb_10 := hb_10.sub s28
          have S3 := S3.trans s28
          have hb_13 := hb_13.sub s28
          have S4 := S4.trans s28
          have hb_16 := hb_16.sub s28
          have S5 := S5.trans s28
          refine RL.ev (.bin rfl rfl rfl) rfl rfl ?_
          refine RL.ev (.move rfl) rfl rfl ?_
          refine RL.split 89 rfl (fun h29 => ?_) (fun h29 => ?_)
          ·
            have h89 := hasK_out (hn1.resolve_right (fun h => by omega)).2
            refine RL.ev (.move rfl) rfl rfl ?_
            refine RL.ev (.as (v' := .int .i64 (L.length : Int)) (.len sl23 rfl) (by rw [List.length_map])) rfl rfl ?_
            refine RL.ev (.bin rfl rfl rfl) rfl rfl ?_
            refine RL.ev (.pick_t rfl rfl) rfl rfl ?_
            refine RL.ev (.pick_f rfl rfl) rfl rfl ?_
            refine RL.nil (RC.back ?_)
            refine RC.cond_dec rfl (fun h30 => ?_) (fun h30 => ?_)
            ·
              have hbad : BadK L key := .inr (.inr ⟨h89, by omega⟩)
              have hz1 := hP1.1 hbad
              refine RC.seq ?_
              refine RC.region rfl ?_
              refine RL.ev (.move rfl) rfl rfl ?_
              refine RL.ev (.as (v' := .bool false) (.bin rfl rfl rfl) (congrArg Value.bool (decide_eq_false (fun h => h hz1.1)))) rfl rfl ?_
              refine RL.ev (.move rfl) rfl rfl ?_
              refine RL.ev (.move rfl) rfl rfl ?_
              refine RL.ev (.as (v' := .bool false) (.bin rfl rfl rfl) (congrArg Value.bool (decide_eq_false (fun h => h hz1.2)))) rfl rfl ?_
              refine RL.ev (.pick_f rfl rfl) rfl rfl ?_
              refine RL.nil (RC.back ?_)
              refine RC.cond_f rfl ?_
              exact RC.skip (fun a ka => ⟨(), ⟨hb_4, hb_13, hb_16, S1, S3, S4, S5, S⟩, ka.keep (keep_of (by repeat (first | exact trivial | refine And.intro rfl ?_)))⟩)
            ·
              have hnb : ¬ BadK L key := fun h => h.elim h80 (fun h => h.elim h84 (fun h => by omega))
              refine RC.seq ?_
              refine RC.region rfl ?_
              refine RL.ev (.move rfl) rfl rfl ?_
              refine RL.ev (.move rfl) rfl rfl ?_
              refine RL.ev (.move rfl) rfl rfl ?_
              refine RL.call rfl ok13 (c_refPut L ra rc _ (List.length_map _) key v w27 (hl.sub S1) (by omega)) rfl rfl ?_
              rintro _ w31 ⟨pa, pc, rfl, _, s32⟩
              have S := S.trans s32
              have hb_4 := hb_4.sub s32
              have S1 := S1.trans s32
              have S2 := S2.trans s32
              have hb_10 := hb_10.sub s32
              have S3 := S3.trans s32
              have hb_13 := hb_13.sub s32
              have S4 := S4.trans s32
              have hb_16 := hb_16.sub s32
              have S5 := S5.trans s32
              refine RL.ev (.as (v' := .int .i64 ((putL L key v).length : Int)) (.len sl23 rfl) (by rw [List.length_map, putR_putL hLs])) rfl rfl ?_
              refine RL.ev (.assign rfl) rfl rfl ?_
              refine RL.nil (RC.back ?_)
              refine RC.seq ?_
              refine RC.drawD (fun k => False) [] w31.heap.size 31 rfl rfl mxo (fun w33 s34 => ?_)
              have hNN : ∀ k, ((False) ∨ w31.heap.size ≤ k) → w.heap.size ≤ k := fun k e => e.elim (fun e => e.elim) (fun e => Nat.le_trans S.size e)
              have ent_S := S.size
              have ent_S1 := S1.size
              have ent_S2 := S2.size
              have ent_S3 := S3.size
              have ent_S4 := S4.size
              have ent_S5 := S5.size
              have hN0 : ∀ k, w31.heap.size ≤ k → w.heap.size ≤ k := fun k e => Nat.le_trans S.size e
              have ltD_b_4 := hb_4.lt
              have ltD_b_10 := hb_10.lt
              have ltD_b_13 := hb_13.lt
              have ltD_b_16 := hb_16.lt
              have szD := Nat.le_refl w31.heap.size
              have S := S.trans s34
              have hb_4 := hb_4.sub s34
              have S1 := S1.trans s34
              have S2 := S2.trans s34
              have hb_10 := hb_10.sub s34
              have S3 := S3.trans s34
              have hb_13 := hb_13.sub s34
              have S4 := S4.trans s34
              have hb_16 := hb_16.sub s34
              have S5 := S5.trans s34
              have szD := Nat.le_trans szD s34.size
              refine RD.take 0 rfl (by kernel_rfl) (by kernel_rfl) (by kernel_rfl) (fun w' s' => .move rfl) rfl rfl ?_
              refine RD.take 1 rfl (by kernel_rfl) (by kernel_rfl) (by kernel_rfl) (fun w' s' => .bin rfl rfl rfl) rfl rfl ?_
              refine RD.take 2 rfl (by kernel_rfl) (by kernel_rfl) (by kernel_rfl) (fun w' s' => .move rfl) rfl rfl ?_
              refine RD.split 108 rfl (fun h35 => ?_) (fun h35 => ?_)
              ·
                have he1 : e1 = 0 := h35
                obtain ⟨_, hE1, hok1, _, hT1⟩ := (hP1.2 hnb).resolve_left (fun h => by omega)
                refine RD.take 3 rfl (by kernel_rfl) (by kernel_rfl) (by kernel_rfl) (fun w' s' => .loadR ([.slice na1 B1.nodes.length nc1, .slice fa1 B1.free.length fc1]) sh28 rfl (hb_10.step s' (fun e => e.elim (fun e => e.elim) (fun e => Nat.not_le.2 ltD_b_10 e))).row rfl) rfl rfl ?_
                refine RD.take 4 rfl (by kernel_rfl) (by kernel_rfl) (by kernel_rfl) (fun w' s' => .move rfl) rfl rfl ?_
                refine RD.take 5 rfl (by kernel_rfl) (by kernel_rfl) (by kernel_rfl) (fun w' s' => .move rfl) rfl rfl ?_
                refine RD.take 6 rfl (by kernel_rfl) (by kernel_rfl) (by kernel_rfl) (fun w' s' => .move rfl) rfl rfl ?_
                refine RD.take 7 rfl (by kernel_rfl) (by kernel_rfl) (by kernel_rfl) (fun w' s' => .move rfl) rfl rfl ?_
                refine RD.all [8] (by kernel_rfl) rfl (RDs.cons rfl ?_ (RDs.nil))
                refine RL.call rfl ok13 (c_refPut L ra rc _ (List.length_map _) key v w33 (hl.sub S1) (by omega)) rfl rfl ?_
                rintro vr w36 ⟨qa, qc, hvr, o6, s37⟩
                have S := S.trans s37
                have hb_4 := hb_4.sub s37
                have S1 := S1.trans s37
                have S2 := S2.trans s37
                have hb_10 := hb_10.sub s37
                have S3 := S3.trans s37
                have hb_13 := hb_13.sub s37
                have S4 := S4.trans s37
                have hb_16 := hb_16.sub s37
                have S5 := S5.trans s37
                have szD := Nat.le_trans szD s37.size
                rw [putR_putL hLs] at hvr o6
                subst hvr
                have hqc : (putL L key v).length ≤ qc := (by obtain ⟨_, c', e, h⟩ := o6.form; cases e; rw [List.length_map] at h; exact h)
                obtain ⟨W6, S6, hq⟩ : ∃ W6, Sub W6 w36 ∧ Sl W6 qa 2 ((putL L key v).map It.cells) := ⟨_, Sub.refl _, o6.sl.1⟩
                refine RD.back s37.agr ?_
                refine RD.all [9] (by kernel_rfl) rfl (RDs.cons rfl ?_ (RDs.nil))
                refine RL.call rfl ok29 (c_isYes B1 na1 fa1 nc1 fc1 hok1 r1 (putL L key v) qa qc _ (List.length_map _) hqc hu1 (by omega) hT1 w36 (hA1.sub S2) (hq.sub S6)) rfl rfl ?_
                rintro _ w38 ⟨rfl, s39⟩
                have S := S.trans s39
                have hb_4 := hb_4.sub s39
                have S1 := S1.trans s39
                have S2 := S2.trans s39
                have hb_10 := hb_10.sub s39
                have S3 := S3.trans s39
                have hb_13 := hb_13.sub s39
                have S4 := S4.trans s39
                have hb_16 := hb_16.sub s39
                have S5 := S5.trans s39
                have szD := Nat.le_trans szD s39.size
                have S6 := S6.trans s39
                refine RD.back s39.agr ?_
                refine RD.take 10 rfl (by kernel_rfl) (by kernel_rfl) (by kernel_rfl) (fun w' s' => .pick_t rfl rfl) rfl rfl ?_
                refine RD.take 11 rfl (by kernel_rfl) (by kernel_rfl) (by kernel_rfl) (fun w' s' => .move rfl) rfl rfl ?_
                refine RD.take 12 rfl (by kernel_rfl) (by kernel_rfl) (by kernel_rfl) (fun w' s' => .loadR ([.slice na A.nodes.length nc, .slice fa A.free.length fc]) sh28 rfl (hb_4.step s' (fun e => e.elim (fun e => e.elim) (fun e => Nat.not_le.2 ltD_b_4 e))).row rfl) rfl rfl ?_
                refine RD.take 13 rfl (by kernel_rfl) (by kernel_rfl) (by kernel_rfl) (fun w' s' => .loadR ([.slice na1 B1.nodes.length nc1, .slice fa1 B1.free.length fc1]) sh28 rfl (hb_10.step s' (fun e => e.elim (fun e => e.elim) (fun e => Nat.not_le.2 ltD_b_10 e))).row rfl) rfl rfl ?_
                refine RD.all [14] (by kernel_rfl) rfl (RDs.cons rfl ?_ (RDs.nil))
                refine RL.call rfl ok38 (c_kept6 A B1 na fa na1 fa1 nc fc nc1 fc1 w38 (hA.sub S) (hA1.sub S2) hE1 hok1) rfl rfl ?_
                rintro _ w40 ⟨rfl, s41⟩
                have S := S.trans s41
                have hb_4 := hb_4.sub s41
                have S1 := S1.trans s41
                have S2 := S2.trans s41
                have hb_10 := hb_10.sub s41
                have S3 := S3.trans s41
                have hb_13 := hb_13.sub s41
                have S4 := S4.trans s41
                have hb_16 := hb_16.sub s41
                have S5 := S5.trans s41
                have szD := Nat.le_trans szD s41.size
                have S6 := S6.trans s41
                refine RD.back s41.agr ?_
                refine RD.take 15 rfl (by kernel_rfl) (by kernel_rfl) (by kernel_rfl) (fun w' s' => .pick_t rfl rfl) rfl rfl ?_
                refine RD.take 16 rfl (by kernel_rfl) (by kernel_rfl) (by kernel_rfl) (fun w' s' => .not rfl) rfl rfl ?_
                refine RD.take 17 rfl (by kernel_rfl) (by kernel_rfl) (by kernel_rfl) (fun w' s' => .move rfl) rfl rfl ?_
                refine RD.takeOff 18 rfl (by kernel_rfl) (by kernel_rfl) (by kernel_rfl) rfl rfl ?_
                refine RD.takeOff 19 rfl (by kernel_rfl) (by kernel_rfl) (by kernel_rfl) rfl rfl ?_
                refine RD.takeOff 20 rfl (by kernel_rfl) (by kernel_rfl) (by kernel_rfl) rfl rfl ?_
                refine RD.takeOff 21 rfl (by kernel_rfl) (by kernel_rfl) (by kernel_rfl) rfl rfl ?_
                refine RD.takeOff 22 rfl (by kernel_rfl) (by kernel_rfl) (by kernel_rfl) rfl rfl ?_
                refine RD.takeOff 23 rfl (by kernel_rfl) (by kernel_rfl) (by kernel_rfl) rfl rfl ?_
                refine RD.takeOff 24 rfl (by kernel_rfl) (by kernel_rfl) (by kernel_rfl) rfl rfl ?_
                refine RD.takeOff 25 rfl (by kernel_rfl) (by kernel_rfl) (by kernel_rfl) rfl rfl ?_
                refine RD.takeOff 26 rfl (by kernel_rfl) (by kernel_rfl) (by kernel_rfl) rfl rfl ?_
                refine RD.takeOff 27 rfl (by kernel_rfl) (by kernel_rfl) (by kernel_rfl) rfl rfl ?_
                refine RD.takeOff 28 rfl (by kernel_rfl) (by kernel_rfl) (by kernel_rfl) rfl rfl ?_
                refine RD.takeOff 29 rfl (by kernel_rfl) (by kernel_rfl) (by kernel_rfl) rfl rfl ?_
                refine RD.take 30 rfl (by kernel_rfl) (by kernel_rfl) (by kernel_rfl) (fun w' s' => .pick_f rfl rfl) rfl rfl ?_
                refine RD.done (by kernel_rfl) (RC.back ?_)
                refine RC.cond_f rfl ?_
                exact RC.skip (fun a ka => ⟨(), ⟨hb_4, hb_13, hb_16, S1, S3, S4, S5, S⟩, ka.keep (keep_of (by repeat (first | exact trivial | refine And.intro rfl ?_)))⟩)
              ·
                have he1 : ¬ e1 = 0 := h35
                have hfull1 := (hP1.2 hnb).resolve_right (fun h => he1 h.1)
                refine RD.takeOff 3 rfl (by kernel_rfl) (by kernel_rfl) (by kernel_rfl) rfl rfl ?_
                refine RD.takeOff 4 rfl (by kernel_rfl) (by kernel_rfl) (by kernel_rfl) rfl rfl ?_
                refine RD.takeOff 5 rfl (by kernel_rfl) (by kernel_rfl) (by kernel_rfl) rfl rfl ?_
                refine RD.takeOff 6 rfl (by kernel_rfl) (by kernel_rfl) (by kernel_rfl) rfl rfl ?_
                refine RD.takeOff 7 rfl (by kernel_rfl) (by kernel_rfl) (by kernel_rfl) rfl rfl ?_
                refine RD.takeOff 8 rfl (by kernel_rfl) (by kernel_rfl) (by kernel_rfl) rfl rfl ?_
                refine RD.takeOff 9 rfl (by kernel_rfl) (by kernel_rfl) (by kernel_rfl) rfl rfl ?_
                refine RD.take 10 rfl (by kernel_rfl) (by kernel_rfl) (by kernel_rfl) (fun w' s' => .pick_f rfl rfl) rfl rfl ?_
                refine RD.take 11 rfl (by kernel_rfl) (by kernel_rfl) (by kernel_rfl) (fun w' s' => .move rfl) rfl rfl ?_
                refine RD.takeOff 12 rfl (by kernel_rfl) (by kernel_rfl) (by kernel_rfl) rfl rfl ?_
                refine RD.takeOff 13 rfl (by kernel_rfl) (by kernel_rfl) (by kernel_rfl) rfl rfl ?_
                refine RD.takeOff 14 rfl (by kernel_rfl) (by kernel_rfl) (by kernel_rfl) rfl rfl ?_
                refine RD.take 15 rfl (by kernel_rfl) (by kernel_rfl) (by kernel_rfl) (fun w' s' => .pick_f rfl rfl) rfl rfl ?_
                refine RD.take 16 rfl (by kernel_rfl) (by kernel_rfl) (by kernel_rfl) (fun w' s' => .not rfl) rfl rfl ?_
                refine RD.take 17 rfl (by kernel_rfl) (by kernel_rfl) (by kernel_rfl) (fun w' s' => .move rfl) rfl rfl ?_
                refine RD.take 18 rfl (by kernel_rfl) (by kernel_rfl) (by kernel_rfl) (fun w' s' => .move rfl) rfl rfl ?_
                refine RD.take 19 rfl (by kernel_rfl) (by kernel_rfl) (by kernel_rfl) (fun w' s' => .as (v' := .bool true) (.bin rfl rfl rfl) (congrArg Value.bool (decide_eq_true (hfull1.1)))) rfl rfl ?_
                refine RD.take 20 rfl (by kernel_rfl) (by kernel_rfl) (by kernel_rfl) (fun w' s' => .move rfl) rfl rfl ?_
                refine RD.take 21 rfl (by kernel_rfl) (by kernel_rfl) (by kernel_rfl) (fun w' s' => .field0 fo28_1 rfl) rfl rfl ?_
                refine RD.take 22 rfl (by kernel_rfl) (by kernel_rfl) (by kernel_rfl) (fun w' s' => .load1 sh26 rfl ((hb_4.step s' (fun e => e.elim (fun e => e.elim) (fun e => Nat.not_le.2 ltD_b_4 e))).cell rfl)) rfl rfl ?_
                refine RD.take 23 rfl (by kernel_rfl) (by kernel_rfl) (by kernel_rfl) (fun w' s' => .len sl26 rfl) rfl rfl ?_
                refine RD.take 24 rfl (by kernel_rfl) (by kernel_rfl) (by kernel_rfl) (fun w' s' => .move rfl) rfl rfl ?_
                refine RD.take 25 rfl (by kernel_rfl) (by kernel_rfl) (by kernel_rfl) (fun w' s' => .as (.bin rfl rfl rfl) (wi64 (y := (2 * (putL L key v).length : Int)) (by omega) (by omega))) rfl rfl ?_
                refine RD.take 26 rfl (by kernel_rfl) (by kernel_rfl) (by kernel_rfl) (fun w' s' => .as (.bin rfl rfl rfl) (wi64 (y := (2 * (putL L key v).length + 1 : Int)) (by omega) (by omega))) rfl rfl ?_
                refine RD.take 27 rfl (by kernel_rfl) (by kernel_rfl) (by kernel_rfl) (fun w' s' => .as (v' := .bool true) (.bin rfl rfl rfl) (congrArg Value.bool (decide_eq_true (by omega)))) rfl rfl ?_
                refine RD.take 28 rfl (by kernel_rfl) (by kernel_rfl) (by kernel_rfl) (fun w' s' => .pick_t rfl rfl) rfl rfl ?_
                refine RD.take 29 rfl (by kernel_rfl) (by kernel_rfl) (by kernel_rfl) (fun w' s' => .not rfl) rfl rfl ?_
                refine RD.take 30 rfl (by kernel_rfl) (by kernel_rfl) (by kernel_rfl) (fun w' s' => .pick_t rfl rfl) rfl rfl ?_
                refine RD.done (by kernel_rfl) (RC.back ?_)
                refine RC.cond_f rfl ?_
                exact RC.skip (fun a ka => ⟨(), ⟨hb_4, hb_13, hb_16, S1, S3, S4, S5, S⟩, ka.keep (keep_of (by repeat (first | exact trivial | refine And.intro rfl ?_)))⟩)
          ·
            have hnb : ¬ BadK L key := fun h => h.elim h80 (fun h => h.elim h84 (fun h => by obtain ⟨y, hy, hyk⟩ := hasK_iff.1 (hn1.resolve_left (fun h => by omega)).2.1; exact h.1 y hy hyk))
            refine RL.off rfl rfl ?_
            refine RL.off rfl rfl ?_
            refine RL.off rfl rfl ?_
            refine RL.ev (.pick_f rfl rfl) rfl rfl ?_
            refine RL.ev (.pick_f rfl rfl) rfl rfl ?_
            refine RL.nil (RC.back ?_)
            refine RC.cond_f rfl ?_
            refine RC.seq ?_
            refine RC.region rfl ?_
            refine RL.ev (.move rfl) rfl rfl ?_
            refine RL.ev (.move rfl) rfl rfl ?_
            refine RL.ev (.move rfl) rfl rfl ?_
            refine RL.call rfl ok13 (c_refPut L ra rc _ (List.length_map _) key v w27 (hl.sub S1) (by omega)) rfl rfl ?_
            rintro _ w42 ⟨pa, pc, rfl, _, s43⟩
            have S := S.trans s43
            have hb_4 := hb_4.sub s43
            have S1 := S1.trans s43
            have S2 := S2.trans s43
            have hb_10 := hb_10.sub s43
            have S3 := S3.trans s43
            have hb_13 := hb_13.sub s43
            have S4 := S4.trans s43
            have hb_16 := hb_16.sub s43
            have S5 := S5.trans s43
            refine RL.ev (.as (v' := .int .i64 ((putL L key v).length : Int)) (.len sl23 rfl) (by rw [List.length_map, putR_putL hLs])) rfl rfl ?_
            refine RL.ev (.assign rfl) rfl rfl ?_
            refine RL.nil (RC.back ?_)
            refine RC.seq ?_
            refine RC.drawD (fun k => False) [] w42.heap.size 31 rfl rfl mxo (fun w44 s45 => ?_)
            have hNN : ∀ k, ((False) ∨ w42.heap.size ≤ k) → w.heap.size ≤ k := fun k e => e.elim (fun e => e.elim) (fun e => Nat.le_trans S.size e)
            have ent_S := S.size
            have ent_S1 := S1.size
            have ent_S2 := S2.size
            have ent_S3 := S3.size
            have ent_S4 := S4.size
            have ent_S5 := S5.size
            have hN0 : ∀ k, w42.heap.size ≤ k → w.heap.size ≤ k := fun k e => Nat.le_trans S.size e
            have ltD_b_4 := hb_4.lt
            have ltD_b_10 := hb_10.lt
            have ltD_b_13 := hb_13.lt
            have ltD_b_16 := hb_16.lt
            have szD := Nat.le_refl w42.heap.size
            have S := S.trans s45
            have hb_4 := hb_4.sub s45
            have S1 := S1.trans s45
            have S2 := S2.trans s45
            have hb_10 := hb_10.sub s45
            have S3 := S3.trans s45
            have hb_13 := hb_13.sub s45
            have S4 := S4.trans s45
            have hb_16 := hb_16.sub s45
            have S5 := S5.trans s45
            have szD := Nat.le_trans szD s45.size
            refine RD.take 0 rfl (by kernel_rfl) (by kernel_rfl) (by kernel_rfl) (fun w' s' => .move rfl) rfl rfl ?_
            refine RD.take 1 rfl (by kernel_rfl) (by kernel_rfl) (by kernel_rfl) (fun w' s' => .bin rfl rfl rfl) rfl rfl ?_
            refine RD.take 2 rfl (by kernel_rfl) (by kernel_rfl) (by kernel_rfl) (fun w' s' => .move rfl) rfl rfl ?_
            refine RD.split 108 rfl (fun h46 => ?_) (fun h46 => ?_)
            ·
              have he1 : e1 = 0 := h46
              obtain ⟨_, hE1, hok1, _, hT1⟩ := (hP1.2 hnb).resolve_left (fun h => by omega)
              refine RD.take 3 rfl (by kernel_rfl) (by kernel_rfl) (by kernel_rfl) (fun w' s' => .loadR ([.slice na1 B1.nodes.length nc1, .slice fa1 B1.free.length fc1]) sh28 rfl (hb_10.step s' (fun e => e.elim (fun e => e.elim) (fun e => Nat.not_le.2 ltD_b_10 e))).row rfl) rfl rfl ?_
              refine RD.take 4 rfl (by kernel_rfl) (by kernel_rfl) (by kernel_rfl) (fun w' s' => .move rfl) rfl rfl ?_
              refine RD.take 5 rfl (by kernel_rfl) (by kernel_rfl) (by kernel_rfl) (fun w' s' => .move rfl) rfl rfl ?_
              refine RD.take 6 rfl (by kernel_rfl) (by kernel_rfl) (by kernel_rfl) (fun w' s' => .move rfl) rfl rfl ?_
              refine RD.take 7 rfl (by kernel_rfl) (by kernel_rfl) (by kernel_rfl) (fun w' s' => .move rfl) rfl rfl ?_
              refine RD.all [8] (by kernel_rfl) rfl (RDs.cons rfl ?_ (RDs.nil))
              refine RL.call rfl ok13 (c_refPut L ra rc _ (List.length_map _) key v w44 (hl.sub S1) (by omega)) rfl rfl ?_
              rintro vr w47 ⟨qa, qc, hvr, o6, s48⟩
              have S := S.trans s48
              have hb_4 := hb_4.sub s48
              have S1 := S1.trans s48
              have S2 := S2.trans s48
              have hb_10 := hb_10.sub s48
              have S3 := S3.trans s48
              have hb_13 := hb_13.sub s48
              have S4 := S4.trans s48
              have hb_16 := hb_16.sub s48
              have S5 := S5.trans s48
              have szD := Nat.le_trans szD s48.size
              rw [putR_putL hLs] at hvr o6
              subst hvr
              have hqc : (putL L key v).length ≤ qc := (by obtain ⟨_, c', e, h⟩ := o6.form; cases e; rw [List.length_map] at h; exact h)
              obtain ⟨W6, S6, hq⟩ : ∃ W6, Sub W6 w47 ∧ Sl W6 qa 2 ((putL L key v).map It.cells) := ⟨_, Sub.refl _, o6.sl.1⟩
              refine RD.back s48.agr ?_
              refine RD.all [9] (by kernel_rfl) rfl (RDs.cons rfl ?_ (RDs.nil))
              refine RL.call rfl ok29 (c_isYes B1 na1 fa1 nc1 fc1 hok1 r1 (putL L key v) qa qc _ (List.length_map _) hqc hu1 (by omega) hT1 w47 (hA1.sub S2) (hq.sub S6)) rfl rfl ?_
              rintro _ w49 ⟨rfl, s50⟩
              have S := S.trans s50
              have hb_4 := hb_4.sub s50
              have S1 := S1.trans s50
              have S2 := S2.trans s50
              have hb_10 := hb_10.sub s50
              have S3 := S3.trans s50
              have hb_13 := hb_13.sub s50
              have S4 := S4.trans s50
              have hb_16 := hb_16.sub s50
              have S5 := S5.trans s50
              have szD := Nat.le_trans szD s50.size
              have S6 := S6.trans s50
              refine RD.back s50.agr ?_
              refine RD.take 10 rfl (by kernel_rfl) (by kernel_rfl) (by kernel_rfl) (fun w' s' => .pick_t rfl rfl) rfl rfl ?_
              refine RD.take 11 rfl (by kernel_rfl) (by kernel_rfl) (by kernel_rfl) (fun w' s' => .move rfl) rfl rfl ?_
              refine RD.take 12 rfl (by kernel_rfl) (by kernel_rfl) (by kernel_rfl) (fun w' s' => .loadR ([.slice na A.nodes.length nc, .slice fa A.free.length fc]) sh28 rfl (hb_4.step s' (fun e => e.elim (fun e => e.elim) (fun e => Nat.not_le.2 ltD_b_4 e))).row rfl) rfl rfl ?_
              refine RD.take 13 rfl (by kernel_rfl) (by kernel_rfl) (by kernel_rfl) (fun w' s' => .loadR ([.slice na1 B1.nodes.length nc1, .slice fa1 B1.free.length fc1]) sh28 rfl (hb_10.step s' (fun e => e.elim (fun e => e.elim) (fun e => Nat.not_le.2 ltD_b_10 e))).row rfl) rfl rfl ?_
              refine RD.all [14] (by kernel_rfl) rfl (RDs.cons rfl ?_ (RDs.nil))
              refine RL.call rfl ok38 (c_kept6 A B1 na fa na1 fa1 nc fc nc1 fc1 w49 (hA.sub S) (hA1.sub S2) hE1 hok1) rfl rfl ?_
              rintro _ w51 ⟨rfl, s52⟩
              have S := S.trans s52
              have hb_4 := hb_4.sub s52
              have S1 := S1.trans s52
              have S2 := S2.trans s52
              have hb_10 := hb_10.sub s52
              have S3 := S3.trans s52
              have hb_13 := hb_13.sub s52
              have S4 := S4.trans s52
              have hb_16 := hb_16.sub s52
              have S5 := S5.trans s52
              have szD := Nat.le_trans szD s52.size
              have S6 := S6.trans s52
              refine RD.back s52.agr ?_
              refine RD.take 15 rfl (by kernel_rfl) (by kernel_rfl) (by kernel_rfl) (fun w' s' => .pick_t rfl rfl) rfl rfl ?_
              refine RD.take 16 rfl (by kernel_rfl) (by kernel_rfl) (by kernel_rfl) (fun w' s' => .not rfl) rfl rfl ?_
              refine RD.take 17 rfl (by kernel_rfl) (by kernel_rfl) (by kernel_rfl) (fun w' s' => .move rfl) rfl rfl ?_
              refine RD.takeOff 18 rfl (by kernel_rfl) (by kernel_rfl) (by kernel_rfl) rfl rfl ?_
              refine RD.takeOff 19 rfl (by kernel_rfl) (by kernel_rfl) (by kernel_rfl) rfl rfl ?_
              refine RD.takeOff 20 rfl (by kernel_rfl) (by kernel_rfl) (by kernel_rfl) rfl rfl ?_
              refine RD.takeOff 21 rfl (by kernel_rfl) (by kernel_rfl) (by kernel_rfl) rfl rfl ?_
              refine RD.takeOff 22 rfl (by kernel_rfl) (by kernel_rfl) (by kernel_rfl) rfl rfl ?_
              refine RD.takeOff 23 rfl (by kernel_rfl) (by kernel_rfl) (by kernel_rfl) rfl rfl ?_
              refine RD.takeOff 24 rfl (by kernel_rfl) (by kernel_rfl) (by kernel_rfl) rfl rfl ?_
              refine RD.takeOff 25 rfl (by kernel_rfl) (by kernel_rfl) (by kernel_rfl) rfl rfl ?_
              refine RD.takeOff 26 rfl (by kernel_rfl) (by kernel_rfl) (by kernel_rfl) rfl rfl ?_
              refine RD.takeOff 27 rfl (by kernel_rfl) (by kernel_rfl) (by kernel_rfl) rfl rfl ?_
              refine RD.takeOff 28 rfl (by kernel_rfl) (by kernel_rfl) (by kernel_rfl) rfl rfl ?_
              refine RD.takeOff 29 rfl (by kernel_rfl) (by kernel_rfl) (by kernel_rfl) rfl rfl ?_
              refine RD.take 30 rfl (by kernel_rfl) (by kernel_rfl) (by kernel_rfl) (fun w' s' => .pick_f rfl rfl) rfl rfl ?_
              refine RD.done (by kernel_rfl) (RC.back ?_)
              refine RC.cond_f rfl ?_
              exact RC.skip (fun a ka => ⟨(), ⟨hb_4, hb_13, hb_16, S1, S3, S4, S5, S⟩, ka.keep (keep_of (by repeat (first | exact trivial | refine And.intro rfl ?_)))⟩)
            ·
              have he1 : ¬ e1 = 0 := h46
              have hfull1 := (hP1.2 hnb).resolve_right (fun h => he1 h.1)
              refine RD.takeOff 3 rfl (by kernel_rfl) (by kernel_rfl) (by kernel_rfl) rfl rfl ?_
              refine RD.takeOff 4 rfl (by kernel_rfl) (by kernel_rfl) (by kernel_rfl) rfl rfl ?_
              refine RD.takeOff 5 rfl (by kernel_rfl) (by kernel_rfl) (by kernel_rfl) rfl rfl ?_
              refine RD.takeOff 6 rfl (by kernel_rfl) (by kernel_rfl) (by kernel_rfl) rfl rfl ?_
              refine RD.takeOff 7 rfl (by kernel_rfl) (by kernel_rfl) (by kernel_rfl) rfl rfl ?_
              refine RD.takeOff 8 rfl (by kernel_rfl) (by kernel_rfl) (by kernel_rfl) rfl rfl ?_
              refine RD.takeOff 9 rfl (by kernel_rfl) (by kernel_rfl) (by kernel_rfl) rfl rfl ?_
              refine RD.take 10 rfl (by kernel_rfl) (by kernel_rfl) (by kernel_rfl) (fun w' s' => .pick_f rfl rfl) rfl rfl ?_
              refine RD.take 11 rfl (by kernel_rfl) (by kernel_rfl) (by kernel_rfl) (fun w' s' => .move rfl) rfl rfl ?_
              refine RD.takeOff 12 rfl (by kernel_rfl) (by kernel_rfl) (by kernel_rfl) rfl rfl ?_
              refine RD.takeOff 13 rfl (by kernel_rfl) (by kernel_rfl) (by kernel_rfl) rfl rfl ?_
              refine RD.takeOff 14 rfl (by kernel_rfl) (by kernel_rfl) (by kernel_rfl) rfl rfl ?_
              refine RD.take 15 rfl (by kernel_rfl) (by kernel_rfl) (by kernel_rfl) (fun w' s' => .pick_f rfl rfl) rfl rfl ?_
              refine RD.take 16 rfl (by kernel_rfl) (by kernel_rfl) (by kernel_rfl) (fun w' s' => .not rfl) rfl rfl ?_
              refine RD.take 17 rfl (by kernel_rfl) (by kernel_rfl) (by kernel_rfl) (fun w' s' => .move rfl) rfl rfl ?_
              refine RD.take 18 rfl (by kernel_rfl) (by kernel_rfl) (by kernel_rfl) (fun w' s' => .move rfl) rfl rfl ?_
              refine RD.take 19 rfl (by kernel_rfl) (by kernel_rfl) (by kernel_rfl) (fun w' s' => .as (v' := .bool true) (.bin rfl rfl rfl) (congrArg Value.bool (decide_eq_true (hfull1.1)))) rfl rfl ?_
              refine RD.take 20 rfl (by kernel_rfl) (by kernel_rfl) (by kernel_rfl) (fun w' s' => .move rfl) rfl rfl ?_
              refine RD.take 21 rfl (by kernel_rfl) (by kernel_rfl) (by kernel_rfl) (fun w' s' => .field0 fo28_1 rfl) rfl rfl ?_
              refine RD.take 22 rfl (by kernel_rfl) (by kernel_rfl) (by kernel_rfl) (fun w' s' => .load1 sh26 rfl ((hb_4.step s' (fun e => e.elim (fun e => e.elim) (fun e => Nat.not_le.2 ltD_b_4 e))).cell rfl)) rfl rfl ?_
              refine RD.take 23 rfl (by kernel_rfl) (by kernel_rfl) (by kernel_rfl) (fun w' s' => .len sl26 rfl) rfl rfl ?_
              refine RD.take 24 rfl (by kernel_rfl) (by kernel_rfl) (by kernel_rfl) (fun w' s' => .move rfl) rfl rfl ?_
              refine RD.take 25 rfl (by kernel_rfl) (by kernel_rfl) (by kernel_rfl) (fun w' s' => .as (.bin rfl rfl rfl) (wi64 (y := (2 * (putL L key v).length : Int)) (by omega) (by omega))) rfl rfl ?_
              refine RD.take 26 rfl (by kernel_rfl) (by kernel_rfl) (by kernel_rfl) (fun w' s' => .as (.bin rfl rfl rfl) (wi64 (y := (2 * (putL L key v).length + 1 : Int)) (by omega) (by omega))) rfl rfl ?_
              refine RD.take 27 rfl (by kernel_rfl) (by kernel_rfl) (by kernel_rfl) (fun w' s' => .as (v' := .bool true) (.bin rfl rfl rfl) (congrArg Value.bool (decide_eq_true (by omega)))) rfl rfl ?_
              refine RD.take 28 rfl (by kernel_rfl) (by kernel_rfl) (by kernel_rfl) (fun w' s' => .pick_t rfl rfl) rfl rfl ?_
              refine RD.take 29 rfl (by kernel_rfl) (by kernel_rfl) (by kernel_rfl) (fun w' s' => .not rfl) rfl rfl ?_
              refine RD.take 30 rfl (by kernel_rfl) (by kernel_rfl) (by kernel_rfl) (fun w' s' => .pick_t rfl rfl) rfl rfl ?_
              refine RD.done (by kernel_rfl) (RC.back ?_)
              refine RC.cond_f rfl ?_
              exact RC.skip (fun a ka => ⟨(), ⟨hb_4, hb_13, hb_16, S1, S3, S4, S5, S⟩, ka.keep (keep_of (by repeat (first | exact trivial | refine And.intro rfl ?_)))⟩)
    obtain ⟨hb_4, hb_13, hb_16, S1, S3, S4, S5, S⟩ := hJ
    refine RC.cutx (α := Unit) (fun _ => [(1, .int .u64 r), (2, .int .i64 key), (3, .int .i64 v), (4, .pointer (some ⟨b_4, 0, none⟩)), (9, .slice ra (L.map It.cells).length rc), (16, .pointer (some ⟨b_16, 0, none⟩)), (17, .int .u64 r3), (18, .int .u64 r4), (19, .int .i64 e3), (20, .int .i64 (L.length : Int)), (21, .slice ba ((ltL key L).map It.cells).length bc), (22, .bool (decide ((A.free.length : Int) < 2 * L.length + 1)))]) (fun _ w53 => Has w53 b_4 [.slice na A.nodes.length nc, .slice fa A.free.length fc] 28 ∧ Has w53 b_16 [.slice na3 B3.nodes.length nc3, .slice fa3 B3.free.length fc3] 28 ∧ Sub W1 w53 ∧ Sub W4 w53 ∧ Sub W5 w53 ∧ Sub w w53) ?_ (fun _ w53 hJ => ?_)
    ·
      refine RC.seq ?_
      refine RC.region rfl ?_
      refine RL.ev (.move rfl) rfl rfl ?_
      refine RL.ev (.move rfl) rfl rfl ?_
      refine RL.call rfl ok17 (c_refAt6 L ra rc _ (List.length_map _) key w24 (hl.sub S1) (by omega)) rfl rfl ?_
      rintro _ w54 ⟨s55, n2, rfl, hn2⟩
      have S := S.trans s55
      have S1 := S1.trans s55
      have S3 := S3.trans s55
      have S4 := S4.trans s55
      have S5 := S5.trans s55
      have hb_4 := hb_4.sub s55
      have hb_13 := hb_13.sub s55
      have hb_16 := hb_16.sub s55
      refine RL.ev (.bin rfl rfl rfl) rfl rfl ?_
      refine RL.nil (RC.back ?_)
      refine RC.cond_dec rfl (fun h56 => ?_) (fun h56 => ?_)
      ·
        have hz2 := hP2.1 (hasK_out (hn2.resolve_right (fun h => by omega)).2)
        refine RC.seq ?_
        refine RC.region rfl ?_
        refine RL.ev (.move rfl) rfl rfl ?_
        refine RL.ev (.as (v' := .bool false) (.bin rfl rfl rfl) (congrArg Value.bool (decide_eq_false (fun h => h hz2.1)))) rfl rfl ?_
        refine RL.ev (.move rfl) rfl rfl ?_
        refine RL.ev (.move rfl) rfl rfl ?_
        refine RL.ev (.as (v' := .bool false) (.bin rfl rfl rfl) (congrArg Value.bool (decide_eq_false (fun h => h hz2.2)))) rfl rfl ?_
        refine RL.ev (.pick_f rfl rfl) rfl rfl ?_
        refine RL.nil (RC.back ?_)
        refine RC.cond_f rfl ?_
        exact RC.skip (fun a ka => ⟨(), ⟨hb_4, hb_16, S1, S4, S5, S⟩, ka.keep (keep_of (by repeat (first | exact trivial | refine And.intro rfl ?_)))⟩)
      ·
        have hhas := hasK_iff.1 (hn2.resolve_left (fun h => by omega)).2.1
        have hz2 := hP2.2 hhas
        have hLpos : 0 < L.length := (by obtain ⟨y, hy, _⟩ := hhas; exact List.length_pos_of_mem hy)
        have hdl : (delL L key).length ≤ L.length := List.length_filter_le _ _
        refine RC.seq ?_
        refine RC.drawD (fun k => False) [] w54.heap.size 30 rfl rfl mxo (fun w57 s58 => ?_)
        have hNN : ∀ k, ((False) ∨ w54.heap.size ≤ k) → w.heap.size ≤ k := fun k e => e.elim (fun e => e.elim) (fun e => Nat.le_trans S.size e)
        have ent_S := S.size
        have ent_S1 := S1.size
        have ent_S3 := S3.size
        have ent_S4 := S4.size
        have ent_S5 := S5.size
        have hN0 : ∀ k, w54.heap.size ≤ k → w.heap.size ≤ k := fun k e => Nat.le_trans S.size e
        have ltD_b_4 := hb_4.lt
        have ltD_b_13 := hb_13.lt
        have ltD_b_16 := hb_16.lt
        have szD := Nat.le_refl w54.heap.size
        have S := S.trans s58
        have S1 := S1.trans s58
        have S3 := S3.trans s58
        have S4 := S4.trans s58
        have S5 := S5.trans s58
        have hb_4 := hb_4.sub s58
        have hb_13 := hb_13.sub s58
        have hb_16 := hb_16.sub s58
        have szD := Nat.le_trans szD s58.size
        refine RD.take 0 rfl (by kernel_rfl) (by kernel_rfl) (by kernel_rfl) (fun w' s' => .move rfl) rfl rfl ?_
        refine RD.take 1 rfl (by kernel_rfl) (by kernel_rfl) (by kernel_rfl) (fun w' s' => .bin rfl rfl rfl) rfl rfl ?_
        refine RD.take 2 rfl (by kernel_rfl) (by kernel_rfl) (by kernel_rfl) (fun w' s' => .move rfl) rfl rfl ?_
        refine RD.split 149 rfl (fun h59 => ?_) (fun h59 => ?_)
        ·
          have he2 : e2 = 0 := h59
          obtain ⟨_, hE2, hok2, _, hT2⟩ := hz2.resolve_left (fun h => by omega)
          refine RD.take 3 rfl (by kernel_rfl) (by kernel_rfl) (by kernel_rfl) (fun w' s' => .loadR ([.slice na2 B2.nodes.length nc2, .slice fa2 B2.free.length fc2]) sh28 rfl (hb_13.step s' (fun e => e.elim (fun e => e.elim) (fun e => Nat.not_le.2 ltD_b_13 e))).row rfl) rfl rfl ?_
          refine RD.take 4 rfl (by kernel_rfl) (by kernel_rfl) (by kernel_rfl) (fun w' s' => .move rfl) rfl rfl ?_
          refine RD.take 5 rfl (by kernel_rfl) (by kernel_rfl) (by kernel_rfl) (fun w' s' => .move rfl) rfl rfl ?_
          refine RD.take 6 rfl (by kernel_rfl) (by kernel_rfl) (by kernel_rfl) (fun w' s' => .move rfl) rfl rfl ?_
          refine RD.all [7] (by kernel_rfl) rfl (RDs.cons rfl ?_ (RDs.nil))
          refine RL.call rfl ok31 (c_refDel L ra rc _ (List.length_map _) key w57 (hl.sub S1) (by omega)) rfl rfl ?_
          rintro _ w60 ⟨da, dc, rfl, o7, s61⟩
          have S := S.trans s61
          have S1 := S1.trans s61
          have S3 := S3.trans s61
          have S4 := S4.trans s61
          have S5 := S5.trans s61
          have hb_4 := hb_4.sub s61
          have hb_13 := hb_13.sub s61
          have hb_16 := hb_16.sub s61
          have szD := Nat.le_trans szD s61.size
          have hdc : (delL L key).length ≤ dc := (by obtain ⟨_, c', e, h⟩ := o7.form; cases e; rw [List.length_map] at h; exact h)
          obtain ⟨W7, S7, hd⟩ : ∃ W7, Sub W7 w60 ∧ Sl W7 da 2 ((delL L key).map It.cells) := ⟨_, Sub.refl _, o7.sl.1⟩
          refine RD.back s61.agr ?_
          refine RD.all [8] (by kernel_rfl) rfl (RDs.cons rfl ?_ (RDs.nil))
          refine RL.call rfl ok29 (c_isYes B2 na2 fa2 nc2 fc2 hok2 r2 (delL L key) da dc _ (List.length_map _) hdc hu2 (by omega) hT2 w60 (hA2.sub S3) (hd.sub S7)) rfl rfl ?_
          rintro _ w62 ⟨rfl, s63⟩
          have S := S.trans s63
          have S1 := S1.trans s63
          have S3 := S3.trans s63
          have S4 := S4.trans s63
          have S5 := S5.trans s63
          have hb_4 := hb_4.sub s63
          have hb_13 := hb_13.sub s63
          have hb_16 := hb_16.sub s63
          have szD := Nat.le_trans szD s63.size
          have S7 := S7.trans s63
          refine RD.back s63.agr ?_
          refine RD.take 9 rfl (by kernel_rfl) (by kernel_rfl) (by kernel_rfl) (fun w' s' => .pick_t rfl rfl) rfl rfl ?_
          refine RD.take 10 rfl (by kernel_rfl) (by kernel_rfl) (by kernel_rfl) (fun w' s' => .move rfl) rfl rfl ?_
          refine RD.take 11 rfl (by kernel_rfl) (by kernel_rfl) (by kernel_rfl) (fun w' s' => .loadR ([.slice na A.nodes.length nc, .slice fa A.free.length fc]) sh28 rfl (hb_4.step s' (fun e => e.elim (fun e => e.elim) (fun e => Nat.not_le.2 ltD_b_4 e))).row rfl) rfl rfl ?_
          refine RD.take 12 rfl (by kernel_rfl) (by kernel_rfl) (by kernel_rfl) (fun w' s' => .loadR ([.slice na2 B2.nodes.length nc2, .slice fa2 B2.free.length fc2]) sh28 rfl (hb_13.step s' (fun e => e.elim (fun e => e.elim) (fun e => Nat.not_le.2 ltD_b_13 e))).row rfl) rfl rfl ?_
          refine RD.all [13] (by kernel_rfl) rfl (RDs.cons rfl ?_ (RDs.nil))
          refine RL.call rfl ok38 (c_kept6 A B2 na fa na2 fa2 nc fc nc2 fc2 w62 (hA.sub S) (hA2.sub S3) hE2 hok2) rfl rfl ?_
          rintro _ w64 ⟨rfl, s65⟩
          have S := S.trans s65
          have S1 := S1.trans s65
          have S3 := S3.trans s65
          have S4 := S4.trans s65
          have S5 := S5.trans s65
          have hb_4 := hb_4.sub s65
          have hb_13 := hb_13.sub s65
          have hb_16 := hb_16.sub s65
          have szD := Nat.le_trans szD s65.size
          have S7 := S7.trans s65
          refine RD.back s65.agr ?_
          refine RD.take 14 rfl (by kernel_rfl) (by kernel_rfl) (by kernel_rfl) (fun w' s' => .pick_t rfl rfl) rfl rfl ?_
          refine RD.take 15 rfl (by kernel_rfl) (by kernel_rfl) (by kernel_rfl) (fun w' s' => .not rfl) rfl rfl ?_
          refine RD.take 16 rfl (by kernel_rfl) (by kernel_rfl) (by kernel_rfl) (fun w' s' => .move rfl) rfl rfl ?_
          refine RD.takeOff 17 rfl (by kernel_rfl) (by kernel_rfl) (by kernel_rfl) rfl rfl ?_
          refine RD.takeOff 18 rfl (by kernel_rfl) (by kernel_rfl) (by kernel_rfl) rfl rfl ?_
          refine RD.takeOff 19 rfl (by kernel_rfl) (by kernel_rfl) (by kernel_rfl) rfl rfl ?_
          refine RD.takeOff 20 rfl (by kernel_rfl) (by kernel_rfl) (by kernel_rfl) rfl rfl ?_
          refine RD.takeOff 21 rfl (by kernel_rfl) (by kernel_rfl) (by kernel_rfl) rfl rfl ?_
          refine RD.takeOff 22 rfl (by kernel_rfl) (by kernel_rfl) (by kernel_rfl) rfl rfl ?_
          refine RD.takeOff 23 rfl (by kernel_rfl) (by kernel_rfl) (by kernel_rfl) rfl rfl ?_
          refine RD.takeOff 24 rfl (by kernel_rfl) (by kernel_rfl) (by kernel_rfl) rfl rfl ?_
          refine RD.takeOff 25 rfl (by kernel_rfl) (by kernel_rfl) (by kernel_rfl) rfl rfl ?_
          refine RD.takeOff 26 rfl (by kernel_rfl) (by kernel_rfl) (by kernel_rfl) rfl rfl ?_
          refine RD.takeOff 27 rfl (by kernel_rfl) (by kernel_rfl) (by kernel_rfl) rfl rfl ?_
          refine RD.takeOff 28 rfl (by kernel_rfl) (by kernel_rfl) (by kernel_rfl) rfl rfl ?_
          refine RD.take 29 rfl (by kernel_rfl) (by kernel_rfl) (by kernel_rfl) (fun w' s' => .pick_f rfl rfl) rfl rfl ?_
          refine RD.done (by kernel_rfl) (RC.back ?_)
          refine RC.cond_f rfl ?_
          exact RC.skip (fun a ka => ⟨(), ⟨hb_4, hb_16, S1, S4, S5, S⟩, ka.keep (keep_of (by repeat (first | exact trivial | refine And.intro rfl ?_)))⟩)
        ·
          have he2 : ¬ e2 = 0 := h59
          have hfull2 := hz2.resolve_right (fun h => he2 h.1)
          refine RD.takeOff 3 rfl (by kernel_rfl) (by kernel_rfl) (by kernel_rfl) rfl rfl ?_
          refine RD.takeOff 4 rfl (by kernel_rfl) (by kernel_rfl) (by kernel_rfl) rfl rfl ?_
          refine RD.takeOff 5 rfl (by kernel_rfl) (by kernel_rfl) (by kernel_rfl) rfl rfl ?_
          refine RD.takeOff 6 rfl (by kernel_rfl) (by kernel_rfl) (by kernel_rfl) rfl rfl ?_
          refine RD.takeOff 7 rfl (by kernel_rfl) (by kernel_rfl) (by kernel_rfl) rfl rfl ?_
          refine RD.takeOff 8 rfl (by kernel_rfl) (by kernel_rfl) (by kernel_rfl) rfl rfl ?_
          refine RD.take 9 rfl (by kernel_rfl) (by kernel_rfl) (by kernel_rfl) (fun w' s' => .pick_f rfl rfl) rfl rfl ?_
          refine RD.take 10 rfl (by kernel_rfl) (by kernel_rfl) (by kernel_rfl) (fun w' s' => .move rfl) rfl rfl ?_
          refine RD.takeOff 11 rfl (by kernel_rfl) (by kernel_rfl) (by kernel_rfl) rfl rfl ?_
          refine RD.takeOff 12 rfl (by kernel_rfl) (by kernel_rfl) (by kernel_rfl) rfl rfl ?_
          refine RD.takeOff 13 rfl (by kernel_rfl) (by kernel_rfl) (by kernel_rfl) rfl rfl ?_
          refine RD.take 14 rfl (by kernel_rfl) (by kernel_rfl) (by kernel_rfl) (fun w' s' => .pick_f rfl rfl) rfl rfl ?_
          refine RD.take 15 rfl (by kernel_rfl) (by kernel_rfl) (by kernel_rfl) (fun w' s' => .not rfl) rfl rfl ?_
          refine RD.take 16 rfl (by kernel_rfl) (by kernel_rfl) (by kernel_rfl) (fun w' s' => .move rfl) rfl rfl ?_
          refine RD.take 17 rfl (by kernel_rfl) (by kernel_rfl) (by kernel_rfl) (fun w' s' => .move rfl) rfl rfl ?_
          refine RD.take 18 rfl (by kernel_rfl) (by kernel_rfl) (by kernel_rfl) (fun w' s' => .as (v' := .bool true) (.bin rfl rfl rfl) (congrArg Value.bool (decide_eq_true (hfull2.1)))) rfl rfl ?_
          refine RD.take 19 rfl (by kernel_rfl) (by kernel_rfl) (by kernel_rfl) (fun w' s' => .move rfl) rfl rfl ?_
          refine RD.take 20 rfl (by kernel_rfl) (by kernel_rfl) (by kernel_rfl) (fun w' s' => .field0 fo28_1 rfl) rfl rfl ?_
          refine RD.take 21 rfl (by kernel_rfl) (by kernel_rfl) (by kernel_rfl) (fun w' s' => .load1 sh26 rfl ((hb_4.step s' (fun e => e.elim (fun e => e.elim) (fun e => Nat.not_le.2 ltD_b_4 e))).cell rfl)) rfl rfl ?_
          refine RD.take 22 rfl (by kernel_rfl) (by kernel_rfl) (by kernel_rfl) (fun w' s' => .len sl26 rfl) rfl rfl ?_
          refine RD.take 23 rfl (by kernel_rfl) (by kernel_rfl) (by kernel_rfl) (fun w' s' => .move rfl) rfl rfl ?_
          refine RD.take 24 rfl (by kernel_rfl) (by kernel_rfl) (by kernel_rfl) (fun w' s' => .as (.bin rfl rfl rfl) (wi64 (y := (2 * L.length : Int)) (by omega) (by omega))) rfl rfl ?_
          refine RD.take 25 rfl (by kernel_rfl) (by kernel_rfl) (by kernel_rfl) (fun w' s' => .as (.bin rfl rfl rfl) (wi64 (y := (2 * L.length - 1 : Int)) (by omega) (by omega))) rfl rfl ?_
          refine RD.take 26 rfl (by kernel_rfl) (by kernel_rfl) (by kernel_rfl) (fun w' s' => .as (v' := .bool true) (.bin rfl rfl rfl) (congrArg Value.bool (decide_eq_true (by omega)))) rfl rfl ?_
          refine RD.take 27 rfl (by kernel_rfl) (by kernel_rfl) (by kernel_rfl) (fun w' s' => .pick_t rfl rfl) rfl rfl ?_
          refine RD.take 28 rfl (by kernel_rfl) (by kernel_rfl) (by kernel_rfl) (fun w' s' => .not rfl) rfl rfl ?_
          refine RD.take 29 rfl (by kernel_rfl) (by kernel_rfl) (by kernel_rfl) (fun w' s' => .pick_t rfl rfl) rfl rfl ?_
          refine RD.done (by kernel_rfl) (RC.back ?_)
          refine RC.cond_f rfl ?_
          exact RC.skip (fun a ka => ⟨(), ⟨hb_4, hb_16, S1, S4, S5, S⟩, ka.keep (keep_of (by repeat (first | exact trivial | refine And.intro rfl ?_)))⟩)
    obtain ⟨hb_4, hb_16, S1, S4, S5, S⟩ := hJ
    refine RC.seq ?_
    refine RC.seq ?_
    refine RC.drawD (fun k => False) [] w53.heap.size 35 rfl rfl mxo (fun w66 s67 => ?_)
    have hNN : ∀ k, ((False) ∨ w53.heap.size ≤ k) → w.heap.size ≤ k := fun k e => e.elim (fun e => e.elim) (fun e => Nat.le_trans S.size e)
    have ent_S := S.size
    have ent_S1 := S1.size
    have ent_S4 := S4.size
    have ent_S5 := S5.size
    have hN0 : ∀ k, w53.heap.size ≤ k → w.heap.size ≤ k := fun k e => Nat.le_trans S.size e
    have ltD_b_4 := hb_4.lt
    have ltD_b_16 := hb_16.lt
    have szD := Nat.le_refl w53.heap.size
    have S := S.trans s67
    have S1 := S1.trans s67
    have S4 := S4.trans s67
    have S5 := S5.trans s67
    have hb_4 := hb_4.sub s67
    have hb_16 := hb_16.sub s67
    have szD := Nat.le_trans szD s67.size
    refine RD.take 0 rfl (by kernel_rfl) (by kernel_rfl) (by kernel_rfl) (fun w' s' => .move rfl) rfl rfl ?_
    refine RD.take 1 rfl (by kernel_rfl) (by kernel_rfl) (by kernel_rfl) (fun w' s' => .bin rfl rfl rfl) rfl rfl ?_
    refine RD.take 2 rfl (by kernel_rfl) (by kernel_rfl) (by kernel_rfl) (fun w' s' => .move rfl) rfl rfl ?_
    refine RD.split 179 rfl (fun h68 => ?_) (fun h68 => ?_)
    ·
      have he3 : e3 = 0 := h68
      obtain ⟨_, hE3, hok3, hf3, hTx, hTy⟩ := hP3.resolve_left (fun h => by omega)
      have hmx : isMap B3 r3 := ⟨hok3, _, hTx, by omega⟩
      have hmy : isMap B3 r4 := ⟨hok3, _, hTy, by omega⟩
      refine RD.take 3 rfl (by kernel_rfl) (by kernel_rfl) (by kernel_rfl) (fun w' s' => .loadR ([.slice na3 B3.nodes.length nc3, .slice fa3 B3.free.length fc3]) sh28 rfl (hb_16.step s' (fun e => e.elim (fun e => e.elim) (fun e => Nat.not_le.2 ltD_b_16 e))).row rfl) rfl rfl ?_
      refine RD.take 4 rfl (by kernel_rfl) (by kernel_rfl) (by kernel_rfl) (fun w' s' => .move rfl) rfl rfl ?_
      refine RD.take 5 rfl (by kernel_rfl) (by kernel_rfl) (by kernel_rfl) (fun w' s' => .move rfl) rfl rfl ?_
      refine RD.all [6] (by kernel_rfl) rfl (RDs.cons rfl ?_ (RDs.nil))
      refine RL.call rfl ok29 (c_isYes B3 na3 fa3 nc3 fc3 hok3 r3 (ltL key L) ba bc _ (List.length_map _) hbc hu3 (by omega) hTx w66 (hA3.sub S4) (hlw.sub S5)) rfl rfl ?_
      rintro _ w69 ⟨rfl, s70⟩
      have S := S.trans s70
      have S1 := S1.trans s70
      have S4 := S4.trans s70
      have S5 := S5.trans s70
      have hb_4 := hb_4.sub s70
      have hb_16 := hb_16.sub s70
      have szD := Nat.le_trans szD s70.size
      refine RD.back s70.agr ?_
      refine RD.take 7 rfl (by kernel_rfl) (by kernel_rfl) (by kernel_rfl) (fun w' s' => .pick_t rfl rfl) rfl rfl ?_
      refine RD.take 8 rfl (by kernel_rfl) (by kernel_rfl) (by kernel_rfl) (fun w' s' => .move rfl) rfl rfl ?_
      refine RD.take 9 rfl (by kernel_rfl) (by kernel_rfl) (by kernel_rfl) (fun w' s' => .loadR ([.slice na3 B3.nodes.length nc3, .slice fa3 B3.free.length fc3]) sh28 rfl (hb_16.step s' (fun e => e.elim (fun e => e.elim) (fun e => Nat.not_le.2 ltD_b_16 e))).row rfl) rfl rfl ?_
      refine RD.take 10 rfl (by kernel_rfl) (by kernel_rfl) (by kernel_rfl) (fun w' s' => .move rfl) rfl rfl ?_
      refine RD.take 11 rfl (by kernel_rfl) (by kernel_rfl) (by kernel_rfl) (fun w' s' => .move rfl) rfl rfl ?_
      refine RD.take 12 rfl (by kernel_rfl) (by kernel_rfl) (by kernel_rfl) (fun w' s' => .move rfl) rfl rfl ?_
      refine RD.take 13 rfl (by kernel_rfl) (by kernel_rfl) (by kernel_rfl) (fun w' s' => .as (v' := .int .i64 ((ltL key L).length : Int)) (.len sl23 rfl) (by rw [List.length_map])) rfl rfl ?_
      refine RD.take 14 rfl (by kernel_rfl) (by kernel_rfl) (by kernel_rfl) (fun w' s' => .sliceLo sl23 rfl rfl (by rw [List.length_map]; omega)) rfl rfl ?_
      refine RD.all [15] (by kernel_rfl) rfl (RDs.cons rfl ?_ (RDs.nil))
      refine RL.call rfl ok29 (c_isYes B3 na3 fa3 nc3 fc3 hok3 r4 (geL key L) _ _ _ (by rw [List.length_map]; omega) (by omega) hu4 (by omega) hTy w69 (hA3.sub S4) (by rw [← ltge_drop hLs key]; exact slDropM (hl.sub S1) _ hrc)) rfl rfl ?_
      rintro _ w71 ⟨rfl, s72⟩
      have S := S.trans s72
      have S1 := S1.trans s72
      have S4 := S4.trans s72
      have S5 := S5.trans s72
      have hb_4 := hb_4.sub s72
      have hb_16 := hb_16.sub s72
      have szD := Nat.le_trans szD s72.size
      refine RD.back s72.agr ?_
      refine RD.take 16 rfl (by kernel_rfl) (by kernel_rfl) (by kernel_rfl) (fun w' s' => .pick_t rfl rfl) rfl rfl ?_
      refine RD.take 17 rfl (by kernel_rfl) (by kernel_rfl) (by kernel_rfl) (fun w' s' => .move rfl) rfl rfl ?_
      refine RD.take 18 rfl (by kernel_rfl) (by kernel_rfl) (by kernel_rfl) (fun w' s' => .loadR ([.slice na A.nodes.length nc, .slice fa A.free.length fc]) sh28 rfl (hb_4.step s' (fun e => e.elim (fun e => e.elim) (fun e => Nat.not_le.2 ltD_b_4 e))).row rfl) rfl rfl ?_
      refine RD.take 19 rfl (by kernel_rfl) (by kernel_rfl) (by kernel_rfl) (fun w' s' => .loadR ([.slice na3 B3.nodes.length nc3, .slice fa3 B3.free.length fc3]) sh28 rfl (hb_16.step s' (fun e => e.elim (fun e => e.elim) (fun e => Nat.not_le.2 ltD_b_16 e))).row rfl) rfl rfl ?_
      refine RD.all [20] (by kernel_rfl) rfl (RDs.cons rfl ?_ (RDs.nil))
      refine RL.call rfl ok38 (c_kept6 A B3 na fa na3 fa3 nc fc nc3 fc3 w71 (hA.sub S) (hA3.sub S4) hE3 hok3) rfl rfl ?_
      rintro _ w73 ⟨rfl, s74⟩
      have S := S.trans s74
      have S1 := S1.trans s74
      have S4 := S4.trans s74
      have S5 := S5.trans s74
      have hb_4 := hb_4.sub s74
      have hb_16 := hb_16.sub s74
      have szD := Nat.le_trans szD s74.size
      refine RD.back s74.agr ?_
      refine RD.take 21 rfl (by kernel_rfl) (by kernel_rfl) (by kernel_rfl) (fun w' s' => .pick_t rfl rfl) rfl rfl ?_
      refine RD.take 22 rfl (by kernel_rfl) (by kernel_rfl) (by kernel_rfl) (fun w' s' => .not rfl) rfl rfl ?_
      refine RD.take 23 rfl (by kernel_rfl) (by kernel_rfl) (by kernel_rfl) (fun w' s' => .move rfl) rfl rfl ?_
      refine RD.takeOff 24 rfl (by kernel_rfl) (by kernel_rfl) (by kernel_rfl) rfl rfl ?_
      refine RD.takeOff 25 rfl (by kernel_rfl) (by kernel_rfl) (by kernel_rfl) rfl rfl ?_
      refine RD.takeOff 26 rfl (by kernel_rfl) (by kernel_rfl) (by kernel_rfl) rfl rfl ?_
      refine RD.takeOff 27 rfl (by kernel_rfl) (by kernel_rfl) (by kernel_rfl) rfl rfl ?_
      refine RD.takeOff 28 rfl (by kernel_rfl) (by kernel_rfl) (by kernel_rfl) rfl rfl ?_
      refine RD.takeOff 29 rfl (by kernel_rfl) (by kernel_rfl) (by kernel_rfl) rfl rfl ?_
      refine RD.take 30 rfl (by kernel_rfl) (by kernel_rfl) (by kernel_rfl) (fun w' s' => .pick_f rfl rfl) rfl rfl ?_
      refine RD.take 31 rfl (by kernel_rfl) (by kernel_rfl) (by kernel_rfl) (fun w' s' => .move rfl) rfl rfl ?_
      refine RD.all [32] (by kernel_rfl) rfl (RDs.cons rfl ?_ (RDs.nil))
      refine RL.call rfl ok28 (c_alive6 w73) rfl rfl ?_
      rintro _ w75 ⟨rfl, s76⟩
      have S := S.trans s76
      have S1 := S1.trans s76
      have S4 := S4.trans s76
      have S5 := S5.trans s76
      have hb_4 := hb_4.sub s76
      have hb_16 := hb_16.sub s76
      have szD := Nat.le_trans szD s76.size
      refine RD.back s76.agr ?_
      refine RD.take 33 rfl (by kernel_rfl) (by kernel_rfl) (by kernel_rfl) (fun w' s' => .not rfl) rfl rfl ?_
      refine RD.take 34 rfl (by kernel_rfl) (by kernel_rfl) (by kernel_rfl) (fun w' s' => .pick_f rfl rfl) rfl rfl ?_
      refine RD.done (by kernel_rfl) (RC.back ?_)
      refine RC.cond_f rfl ?_
      refine RC.skip (RC.back ?_)
      refine RC.seq ?_
      refine RC.seq ?_
      refine RC.region rfl ?_
      refine RL.ev (.move rfl) rfl rfl ?_
      refine RL.ev (.as (v' := .bool false) (.bin rfl rfl rfl) (congrArg Value.bool (decide_eq_false (fun h => h he3)))) rfl rfl ?_
      refine RL.nil (RC.back ?_)
      refine RC.cond_f rfl ?_
      refine RC.skip (RC.back ?_)
      refine RC.seq ?_
      refine RC.region rfl ?_
      refine RL.ev (.loadR ([.slice na3 B3.nodes.length nc3, .slice fa3 B3.free.length fc3]) sh28 rfl hb_16.row rfl) rfl rfl ?_
      refine RL.ev (.move rfl) rfl rfl ?_
      refine RL.ev (.move rfl) rfl rfl ?_
      refine RL.call rfl ok34 (c_tjoin B3 na3 fa3 nc3 fc3 hnc3 hfc3 r3 r4 hu3 hu4 _ w75 ((Ft.of_sub fun u s => hA3.sub s).sub S4)) rfl rfl ?_
      rintro _ w77 ⟨s78, na5, fa5, nc5, fc5, B5, r5, e5, M5, rfl, hu5, hnc5, hfc5, hA5, _, hp5⟩
      have S := S.trans s78
      have S1 := S1.trans s78
      have S4 := S4.trans s78
      have S5 := S5.trans s78
      have hb_4 := hb_4.sub s78
      have hb_16 := hb_16.sub s78
      have hP5 := join_good hp5 hmx hmy hTx hTy (fun h => h.2.2.elim (fun h => h (ltge_lt2 L key)) (fun h => by omega))
      rw [ltge_app hLs key] at hP5
      obtain ⟨W8, S8, hA5⟩ : ∃ W8, Sub W8 w77 ∧ ArR W8 na5 fa5 B5 := ⟨_, Sub.refl _, hA5.now⟩
      refine RL.ev (.move rfl) rfl rfl ?_
      refine RL.ev (.extract rfl rfl) rfl rfl ?_
      refine RL.ev (.extract rfl rfl) rfl rfl ?_
      refine RL.ev (.extract rfl rfl) rfl rfl ?_
      refine RL.alloc ze28 rfl rfl (fun b_24 w_24 e_24 z_24 hb_24 s_24 => ?_)
      have ge_24 := S.le e_24
      have n_4__24 := hb_4.ne e_24
      have n_16__24 := hb_16.ne e_24
      have S := S.trans s_24
      have geS1_24 := S1.le e_24
      have S1 := S1.trans s_24
      have geS4_24 := S4.le e_24
      have S4 := S4.trans s_24
      have geS5_24 := S5.le e_24
      have S5 := S5.trans s_24
      have hb_4 := hb_4.sub s_24
      have hb_16 := hb_16.sub s_24
      have geS8_24 := S8.le e_24
      have S8 := S8.trans s_24
      refine RL.store sh28 rfl rfl rfl hb_24 (by exact Nat.le_of_ble_eq_true rfl) (by rfl) rfl (fun w79 z79 hb_24 a79 => ?_)
      have S := S.upd a79 ge_24
      have S1 := S1.upd a79 geS1_24
      have S4 := S4.upd a79 geS4_24
      have S5 := S5.upd a79 geS5_24
      have hb_4 := hb_4.upd a79 n_4__24
      have hb_16 := hb_16.upd a79 n_16__24
      have S8 := S8.upd a79 geS8_24
      have hb_24 : Has w79 b_24 ([.slice na5 B5.nodes.length nc5, .slice fa5 B5.free.length fc5]) _ := hb_24.now (by kernel_rfl)
      refine RL.ev (.assign rfl) rfl rfl ?_
      refine RL.ev (.assign rfl) rfl rfl ?_
      refine RL.nil (RC.back ?_)
      refine RC.seq ?_
      refine RC.region rfl ?_
      refine RL.ev (.loadR ([.slice na3 B3.nodes.length nc3, .slice fa3 B3.free.length fc3]) sh28 rfl hb_16.row rfl) rfl rfl ?_
      refine RL.ev (.move rfl) rfl rfl ?_
      refine RL.ev (.move rfl) rfl rfl ?_
      refine RL.call rfl ok34 (c_tjoin B3 na3 fa3 nc3 fc3 hnc3 hfc3 r4 r3 hu4 hu3 _ w79 ((Ft.of_sub fun u s => hA3.sub s).sub S4)) rfl rfl ?_
      rintro _ w80 ⟨s81, na6, fa6, nc6, fc6, B6, r6, e6, M6, rfl, hu6, hnc6, hfc6, hA6, _, hp6⟩
      have S := S.trans s81
      have S1 := S1.trans s81
      have S4 := S4.trans s81
      have S5 := S5.trans s81
      have hb_4 := hb_4.sub s81
      have hb_16 := hb_16.sub s81
      have S8 := S8.trans s81
      have hb_24 := hb_24.sub s81
      have hP6 := fun h1 h2 => join_bad hp6 hmy hmx hTy hTx (gelt_bad (L := L) (key := key) h1 h2)
      refine RL.ev (.move rfl) rfl rfl ?_
      refine RL.ev (.extract rfl rfl) rfl rfl ?_
      refine RL.ev (.extract rfl rfl) rfl rfl ?_
      refine RL.ev (.extract rfl rfl) rfl rfl ?_
      refine RL.alloc ze28 rfl rfl (fun b_27 w_27 e_27 z_27 hb_27 s_27 => ?_)
      have ge_27 := S.le e_27
      have n_4__27 := hb_4.ne e_27
      have n_16__27 := hb_16.ne e_27
      have n_24__27 := hb_24.ne e_27
      have S := S.trans s_27
      have geS1_27 := S1.le e_27
      have S1 := S1.trans s_27
      have geS4_27 := S4.le e_27
      have S4 := S4.trans s_27
      have geS5_27 := S5.le e_27
      have S5 := S5.trans s_27
      have hb_4 := hb_4.sub s_27
      have hb_16 := hb_16.sub s_27
      have geS8_27 := S8.le e_27
      have S8 := S8.trans s_27
      have hb_24 := hb_24.sub s_27
      refine RL.store sh28 rfl rfl rfl hb_27 (by exact Nat.le_of_ble_eq_true rfl) (by rfl) rfl (fun w82 z82 hb_27 a82 => ?_)
      have S := S.upd a82 ge_27
      have S1 := S1.upd a82 geS1_27
      have S4 := S4.upd a82 geS4_27
      have S5 := S5.upd a82 geS5_27
      have hb_4 := hb_4.upd a82 n_4__27
      have hb_16 := hb_16.upd a82 n_16__27
      have S8 := S8.upd a82 geS8_27
      have hb_24 := hb_24.upd a82 n_24__27
      have hb_27 : Has w82 b_27 ([.slice na6 B6.nodes.length nc6, .slice fa6 B6.free.length fc6]) _ := hb_27.now (by kernel_rfl)
      refine RL.ev (.assign rfl) rfl rfl ?_
      refine RL.ev (.assign rfl) rfl rfl ?_
      refine RL.nil (RC.back ?_)
      refine RC.seq ?_
      refine RC.seq ?_
      refine RC.region rfl ?_
      refine RL.ev (.move rfl) rfl rfl ?_
      refine RL.ev (.as (v' := .int .i64 ((ltL key L).length : Int)) (.len sl23 rfl) (by rw [List.length_map])) rfl rfl ?_
      refine RL.ev (.bin rfl rfl rfl) rfl rfl ?_
      refine RL.ev (.move rfl) rfl rfl ?_
      refine RL.split 233 rfl (fun h83 => ?_) (fun h83 => ?_)
      ·
        have h233 := h83
        refine RL.ev (.move rfl) rfl rfl ?_
        refine RL.ev (.as (v' := .int .i64 ((ltL key L).length : Int)) (.len sl23 rfl) (by rw [List.length_map])) rfl rfl ?_
        refine RL.ev (.move rfl) rfl rfl ?_
        refine RL.ev (.as (v' := .int .i64 (L.length : Int)) (.len sl23 rfl) (by rw [List.length_map])) rfl rfl ?_
        refine RL.ev (.bin rfl rfl rfl) rfl rfl ?_
        refine RL.ev (.pick_t rfl rfl) rfl rfl ?_
        refine RL.ev (.move rfl) rfl rfl ?_
        refine RL.split 240 rfl (fun h84 => ?_) (fun h84 => ?_)
        ·
          have h240 := h84
          refine RL.ev (.move rfl) rfl rfl ?_
          refine RL.ev (.as (v' := .bool false) (.bin rfl rfl rfl) (congrArg Value.bool (decide_eq_false (fun h => h (hP6 (by omega) (by omega)))))) rfl rfl ?_
          refine RL.ev (.pick_t rfl rfl) rfl rfl ?_
          refine RL.nil (RC.back ?_)
          refine RC.cond_f rfl ?_
          refine RC.skip (RC.back ?_)
          refine RC.seq ?_
          refine RC.region rfl ?_
          refine RL.ev (.move rfl) rfl rfl ?_
          refine RL.ev (.bin rfl rfl rfl) rfl rfl ?_
          refine RL.ev (.move rfl) rfl rfl ?_
          refine RL.split 246 rfl (fun h85 => ?_) (fun h85 => ?_)
          ·
            have he5 : e5 = 0 := h85
            obtain ⟨_, hE5, hok5, _, hT5⟩ := hP5.resolve_left (fun h => by omega)
            refine RL.ev (.loadR ([.slice na5 B5.nodes.length nc5, .slice fa5 B5.free.length fc5]) sh28 rfl hb_24.row rfl) rfl rfl ?_
            refine RL.ev (.move rfl) rfl rfl ?_
            refine RL.ev (.move rfl) rfl rfl ?_
            refine RL.call rfl ok29 (c_isYes B5 na5 fa5 nc5 fc5 hok5 r5 L ra rc _ (List.length_map _) hrc hu5 (by omega) hT5 w82 (hA5.sub S8) (hl.sub S1)) rfl rfl ?_
            rintro _ w86 ⟨rfl, s87⟩
            have S := S.trans s87
            have S1 := S1.trans s87
            have S4 := S4.trans s87
            have S5 := S5.trans s87
            have hb_4 := hb_4.sub s87
            have hb_16 := hb_16.sub s87
            have S8 := S8.trans s87
            have hb_24 := hb_24.sub s87
            have hb_27 := hb_27.sub s87
            refine RL.ev (.pick_t rfl rfl) rfl rfl ?_
            refine RL.ev (.move rfl) rfl rfl ?_
            refine RL.ev (.loadR ([.slice na3 B3.nodes.length nc3, .slice fa3 B3.free.length fc3]) sh28 rfl hb_16.row rfl) rfl rfl ?_
            refine RL.ev (.loadR ([.slice na5 B5.nodes.length nc5, .slice fa5 B5.free.length fc5]) sh28 rfl hb_24.row rfl) rfl rfl ?_
            refine RL.call rfl ok38 (c_kept6 B3 B5 na3 fa3 na5 fa5 nc3 fc3 nc5 fc5 w86 (hA3.sub S4) (hA5.sub S8) hE5 hok5) rfl rfl ?_
            rintro _ w88 ⟨rfl, s89⟩
            have S := S.trans s89
            have S1 := S1.trans s89
            have S4 := S4.trans s89
            have S5 := S5.trans s89
            have hb_4 := hb_4.sub s89
            have hb_16 := hb_16.sub s89
            have S8 := S8.trans s89
            have hb_24 := hb_24.sub s89
            have hb_27 := hb_27.sub s89
            refine RL.ev (.pick_t rfl rfl) rfl rfl ?_
            refine RL.ev (.move rfl) rfl rfl ?_
            refine RL.off rfl rfl ?_
            refine RL.off rfl rfl ?_
            refine RL.off rfl rfl ?_
            refine RL.off rfl rfl ?_
            refine RL.off rfl rfl ?_
            refine RL.off rfl rfl ?_
            refine RL.off rfl rfl ?_
            refine RL.off rfl rfl ?_
            refine RL.off rfl rfl ?_
            refine RL.off rfl rfl ?_
            refine RL.off rfl rfl ?_
            refine RL.ev (.pick_t rfl rfl) rfl rfl ?_
            refine RL.ev (.assign rfl) rfl rfl ?_
            refine RL.nil (RC.back ?_)
            refine RC.done (rs := [.tmp 8]) (vs := [_]) rfl rfl ⟨rfl, trivial⟩ ?_
            -- end 2
            exact ⟨rfl, S⟩
          ·
            have he5 : ¬ e5 = 0 := h85
            have hfull5 := hP5.resolve_right (fun h => he5 h.1)
            refine RL.off rfl rfl ?_
            refine RL.off rfl rfl ?_
            refine RL.off rfl rfl ?_
            refine RL.off rfl rfl ?_
            refine RL.ev (.pick_f rfl rfl) rfl rfl ?_
            refine RL.ev (.move rfl) rfl rfl ?_
            refine RL.off rfl rfl ?_
            refine RL.off rfl rfl ?_
            refine RL.off rfl rfl ?_
            refine RL.ev (.pick_f rfl rfl) rfl rfl ?_
            refine RL.ev (.move rfl) rfl rfl ?_
            refine RL.ev (.move rfl) rfl rfl ?_
            refine RL.ev (.as (v' := .bool true) (.bin rfl rfl rfl) (congrArg Value.bool (decide_eq_true (hfull5.1)))) rfl rfl ?_
            refine RL.ev (.move rfl) rfl rfl ?_
            refine RL.ev (.field0 fo28_1 rfl) rfl rfl ?_
            refine RL.ev (.load1 sh26 rfl (hb_16.cell rfl)) rfl rfl ?_
            refine RL.ev (.len sl26 rfl) rfl rfl ?_
            refine RL.ev (.move rfl) rfl rfl ?_
            refine RL.ev (.as (.bin rfl rfl rfl) (wi64 (y := (2 * L.length : Int)) (by omega) (by omega))) rfl rfl ?_
            refine RL.ev (.as (.bin rfl rfl rfl) (wi64 (y := (2 * L.length + 1 : Int)) (by omega) (by omega))) rfl rfl ?_
            refine RL.ev (.as (v' := .bool true) (.bin rfl rfl rfl) (congrArg Value.bool (decide_eq_true (by omega)))) rfl rfl ?_
            refine RL.ev (.pick_t rfl rfl) rfl rfl ?_
            refine RL.ev (.pick_f rfl rfl) rfl rfl ?_
            refine RL.ev (.assign rfl) rfl rfl ?_
            refine RL.nil (RC.back ?_)
            refine RC.done (rs := [.tmp 8]) (vs := [_]) rfl rfl ⟨rfl, trivial⟩ ?_
            -- end 3
            exact ⟨rfl, S⟩
        ·
          refine RL.off rfl rfl ?_
          refine RL.off rfl rfl ?_
          refine RL.ev (.pick_f rfl rfl) rfl rfl ?_
          refine RL.nil (RC.back ?_)
          refine RC.cond_f rfl ?_
          refine RC.skip (RC.back ?_)
          refine RC.seq ?_
          refine RC.region rfl ?_
          refine RL.ev (.move rfl) rfl rfl ?_
          refine RL.ev (.bin rfl rfl rfl) rfl rfl ?_
          refine RL.ev (.move rfl) rfl rfl ?_
          refine RL.split 246 rfl (fun h90 => ?_) (fun h90 => ?_)
          ·
            have he5 : e5 = 0 := h90
            obtain ⟨_, hE5, hok5, _, hT5⟩ := hP5.resolve_left (fun h => by omega)
            refine RL.ev (.loadR ([.slice na5 B5.nodes.length nc5, .slice fa5 B5.free.length fc5]) sh28 rfl hb_24.row rfl) rfl rfl ?_
            refine RL.ev (.move rfl) rfl rfl ?_
            refine RL.ev (.move rfl) rfl rfl ?_
            refine RL.call rfl ok29 (c_isYes B5 na5 fa5 nc5 fc5 hok5 r5 L ra rc _ (List.length_map _) hrc hu5 (by omega) hT5 w82 (hA5.sub S8) (hl.sub S1)) rfl rfl ?_
            rintro _ w91 ⟨rfl, s92⟩
            have S := S.trans s92
            have S1 := S1.trans s92
            have S4 := S4.trans s92
            have S5 := S5.trans s92
            have hb_4 := hb_4.sub s92
            have hb_16 := hb_16.sub s92
            have S8 := S8.trans s92
            have hb_24 := hb_24.sub s92
            have hb_27 := hb_27.sub s92
            refine RL.ev (.pick_t rfl rfl) rfl rfl ?_
            refine RL.ev (.move rfl) rfl rfl ?_
            refine RL.ev (.loadR ([.slice na3 B3.nodes.length nc3, .slice fa3 B3.free.length fc3]) sh28 rfl hb_16.row rfl) rfl rfl ?_
            refine RL.ev (.loadR ([.slice na5 B5.nodes.length nc5, .slice fa5 B5.free.length fc5]) sh28 rfl hb_24.row rfl) rfl rfl ?_
            refine RL.call rfl ok38 (c_kept6 B3 B5 na3 fa3 na5 fa5 nc3 fc3 nc5 fc5 w91 (hA3.sub S4) (hA5.sub S8) hE5 hok5) rfl rfl ?_
            rintro _ w93 ⟨rfl, s94⟩
            have S := S.trans s94
            have S1 := S1.trans s94
            have S4 := S4.trans s94
            have S5 := S5.trans s94
            have hb_4 := hb_4.sub s94
            have hb_16 := hb_16.sub s94
            have S8 := S8.trans s94
            have hb_24 := hb_24.sub s94
            have hb_27 := hb_27.sub s94
            refine RL.ev (.pick_t rfl rfl) rfl rfl ?_
            refine RL.ev (.move rfl) rfl rfl ?_
            refine RL.off rfl rfl ?_
            refine RL.off rfl rfl ?_
            refine RL.off rfl rfl ?_
            refine RL.off rfl rfl ?_
            refine RL.off rfl rfl ?_
            refine RL.off rfl rfl ?_
            refine RL.off rfl rfl ?_
            refine RL.off rfl rfl ?_
            refine RL.off rfl rfl ?_
            refine RL.off rfl rfl ?_
            refine RL.off rfl rfl ?_
            refine RL.ev (.pick_t rfl rfl) rfl rfl ?_
            refine RL.ev (.assign rfl) rfl rfl ?_
            refine RL.nil (RC.back ?_)
            refine RC.done (rs := [.tmp 8]) (vs := [_]) rfl rfl ⟨rfl, trivial⟩ ?_
            -- end 4
            exact ⟨rfl, S⟩
          ·
            have he5 : ¬ e5 = 0 := h90
            have hfull5 := hP5.resolve_right (fun h => he5 h.1)
            refine RL.off rfl rfl ?_
            refine RL.off rfl rfl ?_
            refine RL.off rfl rfl ?_
            refine RL.off rfl rfl ?_
            refine RL.ev (.pick_f rfl rfl) rfl rfl ?_
            refine RL.ev (.move rfl) rfl rfl ?_
            refine RL.off rfl rfl ?_
            refine RL.off rfl rfl ?_
            refine RL.off rfl rfl ?_
            refine RL.ev (.pick_f rfl rfl) rfl rfl ?_
            refine RL.ev (.move rfl) rfl rfl ?_
            refine RL.ev (.move rfl) rfl rfl ?_
            refine RL.ev (.as (v' := .bool true) (.bin rfl rfl rfl) (congrArg Value.bool (decide_eq_true (hfull5.1)))) rfl rfl ?_
            refine RL.ev (.move rfl) rfl rfl ?_
            refine RL.ev (.field0 fo28_1 rfl) rfl rfl ?_
            refine RL.ev (.load1 sh26 rfl (hb_16.cell rfl)) rfl rfl ?_
            refine RL.ev (.len sl26 rfl) rfl rfl ?_
            refine RL.ev (.move rfl) rfl rfl ?_
            refine RL.ev (.as (.bin rfl rfl rfl) (wi64 (y := (2 * L.length : Int)) (by omega) (by omega))) rfl rfl ?_
            refine RL.ev (.as (.bin rfl rfl rfl) (wi64 (y := (2 * L.length + 1 : Int)) (by omega) (by omega))) rfl rfl ?_
            refine RL.ev (.as (v' := .bool true) (.bin rfl rfl rfl) (congrArg Value.bool (decide_eq_true (by omega)))) rfl rfl ?_
            refine RL.ev (.pick_t rfl rfl) rfl rfl ?_
            refine RL.ev (.pick_f rfl rfl) rfl rfl ?_
            refine RL.ev (.assign rfl) rfl rfl ?_
            refine RL.nil (RC.back ?_)
            refine RC.done (rs := [.tmp 8]) (vs := [_]) rfl rfl ⟨rfl, trivial⟩ ?_
            -- end 5
            exact ⟨rfl, S⟩
      ·
        refine RL.off rfl rfl ?_
        refine RL.off rfl rfl ?_
        refine RL.off rfl rfl ?_
        refine RL.off rfl rfl ?_
        refine RL.off rfl rfl ?_
        refine RL.ev (.pick_f rfl rfl) rfl rfl ?_
        refine RL.ev (.move rfl) rfl rfl ?_
        refine RL.off rfl rfl ?_
        refine RL.off rfl rfl ?_
        refine RL.ev (.pick_f rfl rfl) rfl rfl ?_
        refine RL.nil (RC.back ?_)
        refine RC.cond_f rfl ?_
        refine RC.skip (RC.back ?_)
        refine RC.seq ?_
        refine RC.region rfl ?_
        refine RL.ev (.move rfl) rfl rfl ?_
        refine RL.ev (.bin rfl rfl rfl) rfl rfl ?_
        refine RL.ev (.move rfl) rfl rfl ?_
        refine RL.split 246 rfl (fun h95 => ?_) (fun h95 => ?_)
        ·
          have he5 : e5 = 0 := h95
          obtain ⟨_, hE5, hok5, _, hT5⟩ := hP5.resolve_left (fun h => by omega)
          refine RL.ev (.loadR ([.slice na5 B5.nodes.length nc5, .slice fa5 B5.free.length fc5]) sh28 rfl hb_24.row rfl) rfl rfl ?_
          refine RL.ev (.move rfl) rfl rfl ?_
          refine RL.ev (.move rfl) rfl rfl ?_
          refine RL.call rfl ok29 (c_isYes B5 na5 fa5 nc5 fc5 hok5 r5 L ra rc _ (List.length_map _) hrc hu5 (by omega) hT5 w82 (hA5.sub S8) (hl.sub S1)) rfl rfl ?_
          rintro _ w96 ⟨rfl, s97⟩
          have S := S.trans s97
          have S1 := S1.trans s97
          have S4 := S4.trans s97
          have S5 := S5.trans s97
          have hb_4 := hb_4.sub s97
          have hb_16 := hb_16.sub s97
          have S8 := S8.trans s97
          have hb_24 := hb_24.sub s97
          have hb_27 := hb_27.sub s97
          refine RL.ev (.pick_t rfl rfl) rfl rfl ?_
          refine RL.ev (.move rfl) rfl rfl ?_
          refine RL.ev (.loadR ([.slice na3 B3.nodes.length nc3, .slice fa3 B3.free.length fc3]) sh28 rfl hb_16.row rfl) rfl rfl ?_
          refine RL.ev (.loadR ([.slice na5 B5.nodes.length nc5, .slice fa5 B5.free.length fc5]) sh28 rfl hb_24.row rfl) rfl rfl ?_
          refine RL.call rfl ok38 (c_kept6 B3 B5 na3 fa3 na5 fa5 nc3 fc3 nc5 fc5 w96 (hA3.sub S4) (hA5.sub S8) hE5 hok5) rfl rfl ?_
          rintro _ w98 ⟨rfl, s99⟩
          have S := S.trans s99
          have S1 := S1.trans s99
          have S4 := S4.trans s99
          have S5 := S5.trans s99
          have hb_4 := hb_4.sub s99
          have hb_16 := hb_16.sub s99
          have S8 := S8.trans s99
          have hb_24 := hb_24.sub s99
          have hb_27 := hb_27.sub s99
          refine RL.ev (.pick_t rfl rfl) rfl rfl ?_
          refine RL.ev (.move rfl) rfl rfl ?_
          refine RL.off rfl rfl ?_
          refine RL.off rfl rfl ?_
          refine RL.off rfl rfl ?_
          refine RL.off rfl rfl ?_
          refine RL.off rfl rfl ?_
          refine RL.off rfl rfl ?_
          refine RL.off rfl rfl ?_
          refine RL.off rfl rfl ?_
          refine RL.off rfl rfl ?_
          refine RL.off rfl rfl ?_
          refine RL.off rfl rfl ?_
          refine RL.ev (.pick_t rfl rfl) rfl rfl ?_
          refine RL.ev (.assign rfl) rfl rfl ?_
          refine RL.nil (RC.back ?_)
          refine RC.done (rs := [.tmp 8]) (vs := [_]) rfl rfl ⟨rfl, trivial⟩ ?_
          -- end 6
          exact ⟨rfl, S⟩
        ·
          have he5 : ¬ e5 = 0 := h95
          have hfull5 := hP5.resolve_right (fun h => he5 h.1)
          refine RL.off rfl rfl ?_
          refine RL.off rfl rfl ?_
          refine RL.off rfl rfl ?_
          refine RL.off rfl rfl ?_
          refine RL.ev (.pick_f rfl rfl) rfl rfl ?_
          refine RL.ev (.move rfl) rfl rfl ?_
          refine RL.off rfl rfl ?_
          refine RL.off rfl rfl ?_
          refine RL.off rfl rfl ?_
          refine RL.ev (.pick_f rfl rfl) rfl rfl ?_
          refine RL.ev (.move rfl) rfl rfl ?_
          refine RL.ev (.move rfl) rfl rfl ?_
          refine RL.ev (.as (v' := .bool true) (.bin rfl rfl rfl) (congrArg Value.bool (decide_eq_true (hfull5.1)))) rfl rfl ?_
          refine RL.ev (.move rfl) rfl rfl ?_
          refine RL.ev (.field0 fo28_1 rfl) rfl rfl ?_
          refine RL.ev (.load1 sh26 rfl (hb_16.cell rfl)) rfl rfl ?_
          refine RL.ev (.len sl26 rfl) rfl rfl ?_
          refine RL.ev (.move rfl) rfl rfl ?_
          refine RL.ev (.as (.bin rfl rfl rfl) (wi64 (y := (2 * L.length : Int)) (by omega) (by omega))) rfl rfl ?_
          refine RL.ev (.as (.bin rfl rfl rfl) (wi64 (y := (2 * L.length + 1 : Int)) (by omega) (by omega))) rfl rfl ?_
          refine RL.ev (.as (v' := .bool true) (.bin rfl rfl rfl) (congrArg Value.bool (decide_eq_true (by omega)))) rfl rfl ?_
          refine RL.ev (.pick_t rfl rfl) rfl rfl ?_
          refine RL.ev (.pick_f rfl rfl) rfl rfl ?_
          refine RL.ev (.assign rfl) rfl rfl ?_
          refine RL.nil (RC.back ?_)
          refine RC.done (rs := [.tmp 8]) (vs := [_]) rfl rfl ⟨rfl, trivial⟩ ?_
          -- end 7
          exact ⟨rfl, S⟩
    ·
      have he3 : ¬ e3 = 0 := h68
      have hfull3 := hP3.resolve_right (fun h => he3 h.1)
      refine RD.takeOff 3 rfl (by kernel_rfl) (by kernel_rfl) (by kernel_rfl) rfl rfl ?_
      refine RD.takeOff 4 rfl (by kernel_rfl) (by kernel_rfl) (by kernel_rfl) rfl rfl ?_
      refine RD.takeOff 5 rfl (by kernel_rfl) (by kernel_rfl) (by kernel_rfl) rfl rfl ?_
      refine RD.takeOff 6 rfl (by kernel_rfl) (by kernel_rfl) (by kernel_rfl) rfl rfl ?_
      refine RD.take 7 rfl (by kernel_rfl) (by kernel_rfl) (by kernel_rfl) (fun w' s' => .pick_f rfl rfl) rfl rfl ?_
      refine RD.take 8 rfl (by kernel_rfl) (by kernel_rfl) (by kernel_rfl) (fun w' s' => .move rfl) rfl rfl ?_
      refine RD.takeOff 9 rfl (by kernel_rfl) (by kernel_rfl) (by kernel_rfl) rfl rfl ?_
      refine RD.takeOff 10 rfl (by kernel_rfl) (by kernel_rfl) (by kernel_rfl) rfl rfl ?_
      refine RD.takeOff 11 rfl (by kernel_rfl) (by kernel_rfl) (by kernel_rfl) rfl rfl ?_
      refine RD.takeOff 12 rfl (by kernel_rfl) (by kernel_rfl) (by kernel_rfl) rfl rfl ?_
      refine RD.takeOff 13 rfl (by kernel_rfl) (by kernel_rfl) (by kernel_rfl) rfl rfl ?_
      refine RD.takeOff 14 rfl (by kernel_rfl) (by kernel_rfl) (by kernel_rfl) rfl rfl ?_
      refine RD.takeOff 15 rfl (by kernel_rfl) (by kernel_rfl) (by kernel_rfl) rfl rfl ?_
      refine RD.take 16 rfl (by kernel_rfl) (by kernel_rfl) (by kernel_rfl) (fun w' s' => .pick_f rfl rfl) rfl rfl ?_
      refine RD.take 17 rfl (by kernel_rfl) (by kernel_rfl) (by kernel_rfl) (fun w' s' => .move rfl) rfl rfl ?_
      refine RD.takeOff 18 rfl (by kernel_rfl) (by kernel_rfl) (by kernel_rfl) rfl rfl ?_
      refine RD.takeOff 19 rfl (by kernel_rfl) (by kernel_rfl) (by kernel_rfl) rfl rfl ?_
      refine RD.takeOff 20 rfl (by kernel_rfl) (by kernel_rfl) (by kernel_rfl) rfl rfl ?_
      refine RD.take 21 rfl (by kernel_rfl) (by kernel_rfl) (by kernel_rfl) (fun w' s' => .pick_f rfl rfl) rfl rfl ?_
      refine RD.take 22 rfl (by kernel_rfl) (by kernel_rfl) (by kernel_rfl) (fun w' s' => .not rfl) rfl rfl ?_
      refine RD.take 23 rfl (by kernel_rfl) (by kernel_rfl) (by kernel_rfl) (fun w' s' => .move rfl) rfl rfl ?_
      refine RD.take 24 rfl (by kernel_rfl) (by kernel_rfl) (by kernel_rfl) (fun w' s' => .move rfl) rfl rfl ?_
      refine RD.take 25 rfl (by kernel_rfl) (by kernel_rfl) (by kernel_rfl) (fun w' s' => .as (v' := .bool true) (.bin rfl rfl rfl) (congrArg Value.bool (decide_eq_true (hfull3.1)))) rfl rfl ?_
      refine RD.take 26 rfl (by kernel_rfl) (by kernel_rfl) (by kernel_rfl) (fun w' s' => .move rfl) rfl rfl ?_
      refine RD.take 27 rfl (by kernel_rfl) (by kernel_rfl) (by kernel_rfl) (fun w' s' => .move rfl) rfl rfl ?_
      refine RD.take 28 rfl (by kernel_rfl) (by kernel_rfl) (by kernel_rfl) (fun w' s' => .pick_t rfl rfl) rfl rfl ?_
      refine RD.take 29 rfl (by kernel_rfl) (by kernel_rfl) (by kernel_rfl) (fun w' s' => .not_dec rfl) rfl rfl ?_
      refine RD.take 30 rfl (by kernel_rfl) (by kernel_rfl) (by kernel_rfl) (fun w' s' => .pick_t rfl rfl) rfl rfl ?_
      refine RD.take 31 rfl (by kernel_rfl) (by kernel_rfl) (by kernel_rfl) (fun w' s' => .move rfl) rfl rfl ?_
      refine RD.split 208 rfl (fun h100 => ?_) (fun h100 => ?_)
      ·
        exact absurd (by omega) h100
      ·
        refine RD.all [32] (by kernel_rfl) rfl (RDs.cons rfl ?_ (RDs.nil))
        refine RL.call rfl ok28 (c_alive6 w66) rfl rfl ?_
        rintro _ w101 ⟨rfl, s102⟩
        have S := S.trans s102
        have S1 := S1.trans s102
        have S4 := S4.trans s102
        have S5 := S5.trans s102
        have hb_4 := hb_4.sub s102
        have hb_16 := hb_16.sub s102
        have szD := Nat.le_trans szD s102.size
        refine RD.back s102.agr ?_
        refine RD.take 33 rfl (by kernel_rfl) (by kernel_rfl) (by kernel_rfl) (fun w' s' => .not rfl) rfl rfl ?_
        refine RD.take 34 rfl (by kernel_rfl) (by kernel_rfl) (by kernel_rfl) (fun w' s' => .pick_f rfl rfl) rfl rfl ?_
        refine RD.done (by kernel_rfl) (RC.back ?_)
        refine RC.cond_f rfl ?_
        refine RC.skip (RC.back ?_)
        refine RC.seq ?_
        refine RC.seq ?_
        refine RC.region rfl ?_
        refine RL.ev (.move rfl) rfl rfl ?_
        refine RL.ev (.as (v' := .bool true) (.bin rfl rfl rfl) (congrArg Value.bool (decide_eq_true (he3)))) rfl rfl ?_
        refine RL.nil (RC.back ?_)
        refine RC.cond_t rfl ?_
        refine RC.seq ?_
        refine RC.region rfl ?_
        refine RL.ev (.assign rfl) rfl rfl ?_
        refine RL.nil (RC.back ?_)
        refine RC.done (rs := [.tmp 8]) (vs := [_]) rfl rfl ⟨rfl, trivial⟩ ?_
        -- end 8
        exact ⟨rfl, S⟩
end Go.Proofs.Ytekdjjppdijkmaa
