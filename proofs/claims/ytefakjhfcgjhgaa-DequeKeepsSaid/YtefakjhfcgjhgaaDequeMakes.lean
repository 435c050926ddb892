/-
  The statement DequeMakes.
-/
import Derived.Test.YtefakjhfcgjhgaaDequeBack
set_option linter.unusedVariables false
set_option linter.unusedSimpArgs false
namespace Go.Proofs.Ytefakjhfcgjhgaa
open Go Go.XL

theorem c_fewq (A : Ar) (na fa : Option Addr) (nc fc : Nat) (b6 : Nat) (n : Int) (hn : 0 ≤ n ∧ n ≤ 1000) (hf : A.free.length ≤ 1000000) (w : World) (m6 : Has w b6 [.slice na A.nodes.length nc, .slice fa A.free.length fc] 26) :
    FC Try.prog 23 [.int .i64 n, .pointer (some ⟨b6, 0, none⟩)] w (Val (.bool (decide ((A.free.length : Int) < 2 * n + 1))) w) := by
  refine FC.intro Try.func23 rfl Try.ntmps23 rfl ?_
  have S := Sub.refl w
  refine RC.seq ?_
  refine RC.region rfl ?_
  refine RL.ev (.assign rfl) rfl rfl ?_
  refine RL.nil (RC.back ?_)
  refine RC.seq ?_
  refine RC.region rfl ?_
  refine RL.ev (.field0 fo26_1 rfl) rfl rfl ?_
  refine RL.ev (.load1 sh24 rfl (m6.cell rfl)) rfl rfl ?_
  refine RL.ev (.len sl24 rfl) rfl rfl ?_
  refine RL.ev (.move rfl) rfl rfl ?_
  refine RL.ev (.as (.bin rfl rfl rfl) (wi64 (y := 2 * n) (by rfl) (by omega))) rfl rfl ?_
  refine RL.ev (.as (.bin rfl rfl rfl) (wi64 (y := 2 * n + 1) (by rfl) (by omega))) rfl rfl ?_
  refine RL.ev (.bin rfl rfl rfl) rfl rfl ?_
  refine RL.ev (.assign rfl) rfl rfl ?_
  refine RL.nil (RC.back ?_)
  refine RC.done (rs := [.tmp 3]) (vs := [_]) rfl rfl ⟨rfl, trivial⟩ ?_
  -- end 1
  exact ⟨rfl, S⟩
theorem c_apartY (A : Ar) (na fa : Option Addr) (nc fc : Nat) (hn : A.nodes.length ≤ 1000000000) (x y : Int) (hx : U64 x) (hy : U64 y) (h : apartB A x y = true) (w : World) (hA : ArR w na fa A) :
    FC Try.prog 25 [arV na fa nc fc A, .int .u64 x, .int .u64 y] w (Val (.bool true) w) := h ▸ c_apart A na fa nc fc hn x y hx hy w hA
theorem get_front {V : List Int} (h : 0 < V.length) : V[0]? = some (popV V false) := by
  cases V with
  | nil => simp at h
  | cons x l => rfl
theorem get_back {V : List Int} (h : 0 < V.length) : V[V.length - 1]? = some (popV V true) := by
  obtain ⟨x, hx⟩ := getSome (l := V) (i := V.length - 1) (by omega)
  rw [hx]; simp [popV, List.getD_eq_getElem?_getD, hx]
theorem c_apartD (A : Ar) (na fa : Option Addr) (nc fc : Nat) (hn : A.nodes.length ≤ 1000000000) (x y : Int) (hx : U64 x) (hy : U64 y) {V P U Q : List Int} (h : IsR A x V P) (k : IsR A y U Q) (hl : V.length + U.length ≤ 200) (w : World) (hA : ArR w na fa A) :
    FC Try.prog 25 [arV na fa nc fc A, .int .u64 x, .int .u64 y] w (Val (.bool (decide (∀ p ∈ P, ¬ p ∈ Q))) w) := by
  have e : apartB A x y = decide (∀ p ∈ P, ¬ p ∈ Q) := by
    rw [Bool.eq_iff_iff, apartB_iff h k hl, decide_eq_true_iff]
  exact e ▸ c_apart A na fa nc fc hn x y hx hy w hA
theorem popL_len (V : List Int) (back : Bool) : (popL V back).length = V.length - 1 := by cases back <;> simp [popL]
set_option maxHeartbeats 400000 in
theorem law_DequeMakes (w : World) (A0 : Ar) (na fa : Option Addr) (nc fc : Nat) (hnc0 : A0.nodes.length ≤ nc) (hfc0 : A0.free.length ≤ fc) (hA0 : ArR w na fa A0) (r : Int) (wr : (Lit.int .u64 r).wf = true) (s : Int) (ws : (Lit.int .u64 s).wf = true) (back : Bool) (v : Int) (wv : (Lit.int .i64 v).wf = true) (p : Int) (wp : (Lit.int .i64 p).wf = true) :
    FC Try.prog 7 [arV na fa nc fc A0, .int .u64 r, .int .u64 s, .bool back, .int .i64 v, .int .i64 p] w (Val (.bool true) w) := by
  have hr := wfU wr
  have hsu := wfU ws
  have hv : I64 v := wfI wv
  have hpI : I64 p := wfI wp
  have hp : -9223372036854775808 ≤ p ∧ p ≤ 9223372036854775807 := hpI
  have hA := fewD_R hA0
  have hn60 : (fewD A0).nodes.length ≤ 60 := by simp only [fewD, List.length_take]; omega
  have hf62 : (fewD A0).free.length ≤ 62 := by simp only [fewD, List.length_take]; omega
  have hnc : (fewD A0).nodes.length ≤ nc := by simp only [fewD, List.length_take]; omega
  have hfc : (fewD A0).free.length ≤ fc := by simp only [fewD, List.length_take]; omega
  obtain ⟨A, hAe⟩ : ∃ A, fewD A0 = A := ⟨_, rfl⟩
  rw [hAe] at hA hn60 hnc hfc hf62
  obtain ⟨V0, P, hmV⟩ := rowsL A r
  obtain ⟨U0, Q, hmU⟩ := rowsL A s
  have hF : Ft (· < w.heap.size) (fun u => ArR u na fa A) w := Ft.of_sub fun u s => hA.sub s
  refine FC.intro Try.func7 rfl Try.ntmps7 rfl ?_
  have S := Sub.refl w
  refine RC.seq ?_
  refine RC.region rfl ?_
  refine RL.box rfl rfl rfl (fun b_6 w_6 e_6 z_6 hb_6 s_6 => ?_)
  have ge_6 := S.le e_6
  have S := S.trans s_6
  have hb_6 : Has w_6 b_6 ([.slice na A0.nodes.length nc, .slice fa A0.free.length fc]) _ := hb_6
  refine RL.ev (.assign rfl) rfl rfl ?_
  refine RL.nil (RC.back ?_)
  refine RC.seq ?_
  refine RC.region rfl ?_
  refine RL.ev (.loadR ([.slice na A0.nodes.length nc, .slice fa A0.free.length fc]) sh26 rfl hb_6.row rfl) rfl rfl ?_
  refine RL.call rfl ok21 ((hAe ▸ c_few11 A0 na fa nc fc hnc0 hfc0 w_6)) rfl rfl ?_
  rintro _ w1 ⟨rfl, s2⟩
  have S := S.trans s2
  have hb_6 := hb_6.sub s2
  refine RL.store sh26 rfl rfl rfl hb_6 (by exact Nat.le_of_ble_eq_true rfl) (by rfl) rfl (fun w3 z3 hb_6 a3 => ?_)
  have S := S.upd a3 ge_6
  have hb_6 : Has w3 b_6 ([.slice na A.nodes.length nc, .slice fa A.free.length fc]) _ := hb_6.now (by kernel_rfl)
  refine RL.nil (RC.back ?_)
  refine RC.seq ?_
  refine RC.region rfl ?_
  refine RL.ev (.loadR ([.slice na A.nodes.length nc, .slice fa A.free.length fc]) sh26 rfl hb_6.row rfl) rfl rfl ?_
  refine RL.ev (.move rfl) rfl rfl ?_
  refine RL.call rfl ok22 (c_row11 A na fa nc fc (by omega) r hr w3 (hA.sub S)) rfl rfl ?_
  rintro _ w4 ⟨s5, a1, c1, V, rfl, hs1, hc1, hl1, hy1⟩
  have S := S.trans s5
  have hb_6 := hb_6.sub s5
  obtain ⟨W1, S1, hs1⟩ : ∃ W1, Sub W1 w4 ∧ Sl W1 a1 1 (V.map fun x => [i6 x]) := ⟨_, Sub.refl _, hs1⟩
  refine RL.ev (.move rfl) rfl rfl ?_
  refine RL.ev (.extract rfl rfl) rfl rfl ?_
  refine RL.ev (.extract rfl rfl) rfl rfl ?_
  refine RL.ev (.assign rfl) rfl rfl ?_
  refine RL.ev (.assign rfl) rfl rfl ?_
  refine RL.nil (RC.back ?_)
  refine RC.seq ?_
  refine RC.region rfl ?_
  refine RL.ev (.loadR ([.slice na A.nodes.length nc, .slice fa A.free.length fc]) sh26 rfl hb_6.row rfl) rfl rfl ?_
  refine RL.ev (.move rfl) rfl rfl ?_
  refine RL.call rfl ok22 (c_row11 A na fa nc fc (by omega) s hsu w4 (hA.sub S)) rfl rfl ?_
  rintro _ w6 ⟨s7, a2, c2, U, rfl, hs2, hc2, hl2, hy2⟩
  have S := S.trans s7
  have hb_6 := hb_6.sub s7
  have S1 := S1.trans s7
  obtain ⟨W2, S2, hs2⟩ : ∃ W2, Sub W2 w6 ∧ Sl W2 a2 1 (U.map fun x => [i6 x]) := ⟨_, Sub.refl _, hs2⟩
  refine RL.ev (.move rfl) rfl rfl ?_
  refine RL.ev (.extract rfl rfl) rfl rfl ?_
  refine RL.ev (.extract rfl rfl) rfl rfl ?_
  refine RL.ev (.assign rfl) rfl rfl ?_
  refine RL.ev (.assign rfl) rfl rfl ?_
  refine RL.nil (RC.back ?_)
  refine RC.seq ?_
  refine RC.seq ?_
  refine RC.region rfl ?_
  refine RL.ev (.move rfl) rfl rfl ?_
  refine RL.ev (.not rfl) rfl rfl ?_
  refine RL.ev (.move rfl) rfl rfl ?_
  refine RL.splitB 43 rfl (fun h8 => ?_) (fun h8 => ?_)
  ·
    have h43 := h8
    refine RL.off rfl rfl ?_
    refine RL.off rfl rfl ?_
    refine RL.ev (.pick_t rfl rfl) rfl rfl ?_
    refine RL.nil (RC.back ?_)
    refine RC.cond_t rfl ?_
    refine RC.seq ?_
    refine RC.region rfl ?_
    refine RL.call rfl ok13 (c_alive11 w6) rfl rfl ?_
    rintro _ w9 ⟨rfl, s10⟩
    have S := S.trans s10
    have hb_6 := hb_6.sub s10
    have S1 := S1.trans s10
    have S2 := S2.trans s10
    refine RL.ev (.assign rfl) rfl rfl ?_
    refine RL.nil (RC.back ?_)
    refine RC.done (rs := [.tmp 12]) (vs := [_]) rfl rfl ⟨rfl, trivial⟩ ?_
    -- end 1
    exact ⟨rfl, S⟩
  ·
    have hmV' : isRow A r := (isRowB_iff A r).1 (by simpa using h8)
    refine RL.ev (.move rfl) rfl rfl ?_
    refine RL.ev (.not rfl) rfl rfl ?_
    refine RL.ev (.pick_f rfl rfl) rfl rfl ?_
    refine RL.nil (RC.back ?_)
    refine RC.cond rfl (fun h11 => ?_) (fun h11 => ?_)
    ·
      have h46 := h11
      refine RC.seq ?_
      refine RC.region rfl ?_
      refine RL.call rfl ok13 (c_alive11 w6) rfl rfl ?_
      rintro _ w12 ⟨rfl, s13⟩
      have S := S.trans s13
      have hb_6 := hb_6.sub s13
      have S1 := S1.trans s13
      have S2 := S2.trans s13
      refine RL.ev (.assign rfl) rfl rfl ?_
      refine RL.nil (RC.back ?_)
      refine RC.done (rs := [.tmp 12]) (vs := [_]) rfl rfl ⟨rfl, trivial⟩ ?_
      -- end 2
      exact ⟨rfl, S⟩
    ·
      have hmU' : isRow A s := (isRowB_iff A s).1 (by simpa using h11)
      have hV := hmV hmV'
      have hU := hmU hmU'
      obtain hV0 := hy1 _ _ hmV' hV
      obtain hU0 := hy2 _ _ hmU' hU
      rw [← hV0] at hV
      rw [← hU0] at hU
      have hVl := isRow_len hmV' hV
      have hUl := isRow_len hmU' hU
      have hAok := hmV'.1
      refine RC.skip (RC.back ?_)
      refine RC.seq ?_
      refine RC.region rfl ?_
      refine RL.ev (.func (xs := []) (ys := [_]) rfl rfl) rfl rfl ?_
      refine RL.ev (.assign rfl) rfl rfl ?_
      refine RL.nil (RC.back ?_)
      refine RC.seq ?_
      refine RC.region rfl ?_
      refine RL.ev (.loadR ([.slice na A.nodes.length nc, .slice fa A.free.length fc]) sh26 rfl hb_6.row rfl) rfl rfl ?_
      refine RL.ev (.move rfl) rfl rfl ?_
      refine RL.ev (.move rfl) rfl rfl ?_
      refine RL.ev (.move rfl) rfl rfl ?_
      refine RL.call rfl ok11 (c_dpush A na fa nc fc hnc hfc r back v hr hv _ w6 (hF.sub S)) rfl rfl ?_
      rintro _ w14 ⟨s15, na3, fa3, nc3, fc3, B3, r3, e3, M3, rfl, hu3, hn3, hf3, hA3, _, hp3⟩
      have S := S.trans s15
      have hb_6 := hb_6.sub s15
      have S1 := S1.trans s15
      have S2 := S2.trans s15
      have hp3 := hp3.2.2 V P hmV' hV
      obtain ⟨W3, S3, hA3⟩ : ∃ W, Sub W w14 ∧ ArR W na3 fa3 B3 := ⟨_, Sub.refl _, hA3.now⟩
      refine RL.ev (.move rfl) rfl rfl ?_
      refine RL.ev (.extract rfl rfl) rfl rfl ?_
      refine RL.ev (.extract rfl rfl) rfl rfl ?_
      refine RL.ev (.extract rfl rfl) rfl rfl ?_
      refine RL.alloc ze26 rfl rfl (fun b_18 w_18 e_18 z_18 hb_18 s_18 => ?_)
      have ge_18 := S.le e_18
      have n_6__18 := hb_6.ne e_18
      have S := S.trans s_18
      have hb_6 := hb_6.sub s_18
      have geS1_18 := S1.le e_18
      have S1 := S1.trans s_18
      have geS2_18 := S2.le e_18
      have S2 := S2.trans s_18
      have geS3_18 := S3.le e_18
      have S3 := S3.trans s_18
      refine RL.store sh26 rfl rfl rfl hb_18 (by exact Nat.le_of_ble_eq_true rfl) (by rfl) rfl (fun w16 z16 hb_18 a16 => ?_)
      have S := S.upd a16 ge_18
      have hb_6 := hb_6.upd a16 n_6__18
      have S1 := S1.upd a16 geS1_18
      have S2 := S2.upd a16 geS2_18
      have S3 := S3.upd a16 geS3_18
      have hb_18 : Has w16 b_18 ([.slice na3 B3.nodes.length nc3, .slice fa3 B3.free.length fc3]) _ := hb_18.now (by kernel_rfl)
      refine RL.ev (.assign rfl) rfl rfl ?_
      refine RL.ev (.assign rfl) rfl rfl ?_
      obtain ⟨E, hE⟩ : ∃ E, E = w16.heap.size := ⟨_, rfl⟩
      obtain ⟨WE, hWE, SE⟩ : ∃ W, W.heap.size = E ∧ Sub W w16 := ⟨_, hE.symm, Sub.refl _⟩
      have szS := S.size
      have sz1 := S1.size
      have sz2 := S2.size
      have sz3 := S3.size
      have lt6 := hb_6.lt
      have lt18 := hb_18.lt
      rw [← hE] at szS sz1 sz2 sz3 lt6 lt18
      refine RL.nil (RC.back ?_)
      refine RC.seq ?_
      refine RC.region rfl ?_
      refine RL.ev (.move rfl) rfl rfl ?_
      refine RL.buildSlice1 sl22 _ ze2 rfl rfl rfl rfl rfl rfl rfl (fun b_59 w_59 e_59 z_59 hb_59 s_59 => ?_)
      have ge_59 := S.le e_59
      have n_6__59 := hb_6.ne e_59
      have n_18__59 := hb_18.ne e_59
      have S := S.trans s_59
      have hb_6 := hb_6.sub s_59
      have geS1_59 := S1.le e_59
      have S1 := S1.trans s_59
      have geS2_59 := S2.le e_59
      have S2 := S2.trans s_59
      have geS3_59 := S3.le e_59
      have S3 := S3.trans s_59
      have hb_18 := hb_18.sub s_59
      have geSE_59 := SE.le e_59
      have SE := SE.trans s_59
      have szE := SE.size
      rw [hWE] at szE
      refine RL.ev (.move rfl) rfl rfl ?_
      have sz_61 := S.size
      have ltb_6_61 := hb_6.lt
      have szS1_61 := S1.size
      have szS2_61 := S2.size
      have szS3_61 := S3.size
      have ltb_18_61 := hb_18.lt
      have szSE_61 := SE.size
      have ltb_59_61 := hb_59.lt
      refine RL.append2 (base := E) (rows := [[i6 v]]) (news := V.map fun x => [i6 x]) sl22 ze2 rfl rfl rfl rfl (.inl (Ows.of_has (rows := [[i6 v]]) (extra := []) hb_59 (by simp) (by omega) (Nat.le_refl _) (by decide) rfl)) (hs1.sub S1) (by simp only [List.length_map]) (by intro r hr; obtain ⟨x, _, rfl⟩ := List.mem_map.1 hr; rfl) (by rw [List.all_eq_true]; intro r hr; obtain ⟨x, _, rfl⟩ := List.mem_map.1 hr; rfl) (by (try simp only [List.length_map, List.length_nil, List.length_append, List.length_cons]); omega) (by (try simp only [List.length_map, List.length_nil, List.length_append, List.length_cons]); omega) (by omega) rfl rfl (fun v_61 w_61 hc_61 ho_61 ag_61 ob_61 => ?_)
      have o61 := ho_61 (.inr (Ows.of_has (rows := [[i6 v]]) (extra := []) hb_59 (by simp) (by omega) (Nat.le_refl _) (by decide) rfl))
      have d_o61_b_6 := obNe ob_61 (fun k hk e => n_6__59.symm ((obLit hk).trans e)) hb_6.lt
      have d_o61_b_18 := obNe ob_61 (fun k hk e => n_18__59.symm ((obLit hk).trans e)) hb_18.lt
      have S := S.agrN ag_61 (fun k e => Nat.le_trans (by omega) e.2)
      have hb_6 := hb_6.step ag_61 (fun e => n_6__59.symm (obLit e.1))
      have S1 := S1.agrN ag_61 (fun k e => Nat.le_trans (by omega) e.2)
      have S2 := S2.agrN ag_61 (fun k e => Nat.le_trans (by omega) e.2)
      have S3 := S3.agrN ag_61 (fun k e => Nat.le_trans (by omega) e.2)
      have hb_18 := hb_18.step ag_61 (fun e => n_18__59.symm (obLit e.1))
      have SE := SE.agrN ag_61 (fun k e => Nat.le_trans (by omega) e.2)
      obtain ⟨a_61, c_61, rfl, k_61⟩ := o61.form
      refine RL.ev (.assign rfl) rfl rfl ?_
      refine RL.nil (RC.back ?_)
      refine RC.cutx (α := Option Addr × Nat) (fun y_ => [(1, .int .u64 r), (2, .int .u64 s), (3, .bool back), (5, .int .i64 p), (6, .pointer (some ⟨b_6, 0, none⟩)), (13, .slice a1 (V.map fun x => [i6 x]).length c1), (15, .slice a2 (U.map fun x => [i6 x]).length c2), (17, .func (.func 23) #[] #[.pointer (some ⟨b_6, 0, none⟩)]), (18, .pointer (some ⟨b_18, 0, none⟩)), (19, .int .u64 r3), (20, .int .i64 e3), (21, .slice y_.1 ((pushL V back v).map fun x => [i6 x]).length y_.2)]) (fun y_ w17 => Sl w17 y_.1 1 ((pushL V back v).map fun x => [i6 x]) ∧ Has w17 b_6 [.slice na A.nodes.length nc, .slice fa A.free.length fc] 26 ∧ Has w17 b_18 [.slice na3 B3.nodes.length nc3, .slice fa3 B3.free.length fc3] 26 ∧ Sub W1 w17 ∧ Sub W2 w17 ∧ Sub W3 w17 ∧ Sub w w17) ?_ (fun y_ w17 hJ => ?_)
      ·
        refine RC.seq ?_
        refine RC.region rfl ?_
        refine RL.ev (.move rfl) rfl rfl ?_
        refine RL.nil (RC.back ?_)
        refine RC.cond rfl (fun h18 => ?_) (fun h18 => ?_)
        ·
          subst h18
          refine RC.region rfl ?_
          refine RL.buildSlice0 sl22 rfl rfl (fun b_63 w_63 e_63 z_63 hb_63 s_63 => ?_)
          have ge_63 := S.le e_63
          have n_6__63 := hb_6.ne e_63
          have n_18__63 := hb_18.ne e_63
          have d_o61_b_63 := o61.neNew e_63
          have S := S.trans s_63
          have hb_6 := hb_6.sub s_63
          have geS1_63 := S1.le e_63
          have S1 := S1.trans s_63
          have geS2_63 := S2.le e_63
          have S2 := S2.trans s_63
          have geS3_63 := S3.le e_63
          have S3 := S3.trans s_63
          have hb_18 := hb_18.sub s_63
          have geSE_63 := SE.le e_63
          have SE := SE.trans s_63
          have o61 := o61.sub s_63
          have szE := SE.size
          rw [hWE] at szE
          refine RL.ev (.move rfl) rfl rfl ?_
          have sz_65 := S.size
          have ltb_6_65 := hb_6.lt
          have szS1_65 := S1.size
          have szS2_65 := S2.size
          have szS3_65 := S3.size
          have ltb_18_65 := hb_18.lt
          have szSE_65 := SE.size
          have ltb_63_65 := hb_63.lt
          refine RL.append2 (base := E) (rows := []) (news := V.map fun x => [i6 x]) sl22 ze2 rfl rfl rfl rfl (.inl (Ows.lit0 hb_63 (by omega))) (hs1.sub S1) (by simp only [List.length_map]) (by intro r hr; obtain ⟨x, _, rfl⟩ := List.mem_map.1 hr; rfl) (by rw [List.all_eq_true]; intro r hr; obtain ⟨x, _, rfl⟩ := List.mem_map.1 hr; rfl) (by (try simp only [List.length_map, List.length_nil, List.length_append, List.length_cons]); omega) (by (try simp only [List.length_map, List.length_nil, List.length_append, List.length_cons]); omega) (by omega) rfl rfl (fun v_65 w_65 hc_65 ho_65 ag_65 ob_65 => ?_)
          have o65 := ho_65 (.inr (Ows.lit0 hb_63 (by omega)))
          have d_o65_b_6 := obNe ob_65 (fun k hk e => n_6__63.symm ((obLit hk).trans e)) hb_6.lt
          have d_o65_b_18 := obNe ob_65 (fun k hk e => n_18__63.symm ((obLit hk).trans e)) hb_18.lt
          have dd_o65_o61 := obDD ob_65 (fun k hk h2 => d_o61_b_63 k h2 (obLit hk).symm) (fun k hk => (o61.ge k hk).2)
          have S := S.agrN ag_65 (fun k e => Nat.le_trans (by omega) e.2)
          have hb_6 := hb_6.step ag_65 (fun e => n_6__63.symm (obLit e.1))
          have S1 := S1.agrN ag_65 (fun k e => Nat.le_trans (by omega) e.2)
          have S2 := S2.agrN ag_65 (fun k e => Nat.le_trans (by omega) e.2)
          have S3 := S3.agrN ag_65 (fun k e => Nat.le_trans (by omega) e.2)
          have hb_18 := hb_18.step ag_65 (fun e => n_18__63.symm (obLit e.1))
          have SE := SE.agrN ag_65 (fun k e => Nat.le_trans (by omega) e.2)
          have o61 := o61.step ag_65 (fun k hk e => (fun k hk h2 => d_o61_b_63 k h2 (obLit hk).symm) k e.1 hk)
          obtain ⟨a_65, c_65, rfl, k_65⟩ := o65.form
          refine RL.ev (.move rfl) rfl rfl ?_
          refine RL.buildSlice1 sl22 _ ze2 rfl rfl rfl rfl rfl rfl rfl (fun b_67 w_67 e_67 z_67 hb_67 s_67 => ?_)
          have ge_67 := S.le e_67
          have n_6__67 := hb_6.ne e_67
          have n_18__67 := hb_18.ne e_67
          have d_o61_b_67 := o61.neNew e_67
          have d_o65_b_67 := o65.neNew e_67
          have S := S.trans s_67
          have hb_6 := hb_6.sub s_67
          have geS1_67 := S1.le e_67
          have S1 := S1.trans s_67
          have geS2_67 := S2.le e_67
          have S2 := S2.trans s_67
          have geS3_67 := S3.le e_67
          have S3 := S3.trans s_67
          have hb_18 := hb_18.sub s_67
          have geSE_67 := SE.le e_67
          have SE := SE.trans s_67
          have o61 := o61.sub s_67
          have o65 := o65.sub s_67
          have sz_68 := S.size
          have ltb_6_68 := hb_6.lt
          have szS1_68 := S1.size
          have szS2_68 := S2.size
          have szS3_68 := S3.size
          have ltb_18_68 := hb_18.lt
          have szSE_68 := SE.size
          have ltb_67_68 := hb_67.lt
          refine RL.append2 (base := E) (rows := V.map fun x => [i6 x]) (news := [_]) sl22 ze2 rfl rfl rfl rfl (.inl o65) (Has.slOne hb_67) rfl (by intro r hr; rw [List.mem_singleton] at hr; subst hr; rfl) rfl (by (try simp only [List.length_map, List.length_nil, List.length_append, List.length_cons]); omega) (by (try simp only [List.length_map, List.length_nil, List.length_append, List.length_cons]); omega) (by omega) rfl rfl (fun v_68 w_68 hc_68 ho_68 ag_68 ob_68 => ?_)
          have o68 := ho_68 (.inl (by simp))
          rw [show _ ++ [_] = ((V ++ [v]).map fun x => [i6 x]) from by rw [List.map_append]; rfl] at o68
          have d_o68_b_6 := obNe ob_68 d_o65_b_6 hb_6.lt
          have d_o68_b_18 := obNe ob_68 d_o65_b_18 hb_18.lt
          have dd_o68_o61 := obDD ob_68 dd_o65_o61 (fun k hk => (o61.ge k hk).2)
          have S := S.agrN ag_68 (fun k e => Nat.le_trans (by omega) e.2)
          have hb_6 := hb_6.step ag_68 (fun e => d_o65_b_6 _ e.1 rfl)
          have S1 := S1.agrN ag_68 (fun k e => Nat.le_trans (by omega) e.2)
          have S2 := S2.agrN ag_68 (fun k e => Nat.le_trans (by omega) e.2)
          have S3 := S3.agrN ag_68 (fun k e => Nat.le_trans (by omega) e.2)
          have hb_18 := hb_18.step ag_68 (fun e => d_o65_b_18 _ e.1 rfl)
          have SE := SE.agrN ag_68 (fun k e => Nat.le_trans (by omega) e.2)
          have o61 := o61.step ag_68 (fun k hk e => dd_o65_o61 k e.1 hk)
          obtain ⟨a_68, c_68, rfl, k_68⟩ := o68.form
          refine RL.ev (.assign rfl) rfl rfl ?_
          exact RL.nil (fun a ka => ⟨(a_68, c_68), ⟨o68.sl.1, hb_6, hb_18, S1, S2, S3, S⟩, ka.keep (keep_of (by repeat (first | exact trivial | refine And.intro rfl ?_)))⟩)
        ·
          subst h18
          exact RC.skip (fun a ka => ⟨(a_61, c_61), ⟨o61.sl.1, hb_6, hb_18, S1, S2, S3, S⟩, ka.keep (keep_of (by repeat (first | exact trivial | refine And.intro rfl ?_)))⟩)
      obtain ⟨wa, wc⟩ := y_
      obtain ⟨hw, hb_6, hb_18, S1, S2, S3, S⟩ := hJ
      simp only [] at hw
      obtain ⟨W9, S9, hw⟩ : ∃ W, Sub W w17 ∧ Sl W wa 1 ((pushL V back v).map fun x => [i6 x]) := ⟨_, Sub.refl _, hw⟩
      have hpul := pushL_len V back v
      refine RC.cutx (α := Unit) (fun _ => [(1, .int .u64 r), (2, .int .u64 s), (3, .bool back), (5, .int .i64 p), (6, .pointer (some ⟨b_6, 0, none⟩)), (13, .slice a1 (V.map fun x => [i6 x]).length c1), (15, .slice a2 (U.map fun x => [i6 x]).length c2), (17, .func (.func 23) #[] #[.pointer (some ⟨b_6, 0, none⟩)]), (18, .pointer (some ⟨b_18, 0, none⟩))]) (fun _ w19 => Has w19 b_6 [.slice na A.nodes.length nc, .slice fa A.free.length fc] 26 ∧ Has w19 b_18 [.slice na3 B3.nodes.length nc3, .slice fa3 B3.free.length fc3] 26 ∧ Sub W1 w19 ∧ Sub W2 w19 ∧ Sub w w19) ?_ (fun _ w19 hJ => ?_)
      ·
        refine RC.seq ?_
        refine RC.region rfl ?_
        refine RL.ev (.move rfl) rfl rfl ?_
        refine RL.ev (.as (v' := .int .i64 (V.length : Int)) (.len sl22 rfl) (by rw [List.length_map])) rfl rfl ?_
        refine RL.ev (.bin rfl rfl rfl) rfl rfl ?_
        refine RL.nil (RC.back ?_)
        refine RC.cond_dec rfl (fun h20 => ?_) (fun h20 => ?_)
        ·
          have h71 := h20
          refine RC.seq ?_
          refine RC.region rfl ?_
          refine RL.ev (.move rfl) rfl rfl ?_
          refine RL.ev (.as (v' := .bool false) (.bin rfl rfl rfl) (congrArg Value.bool (decide_eq_false (fun h => h (by rcases hp3 with h | h | h; exact h.2; omega; omega))))) rfl rfl ?_
          refine RL.nil (RC.back ?_)
          refine RC.cond_f rfl ?_
          exact RC.skip (fun a ka => ⟨(), ⟨hb_6, hb_18, S1, S2, S⟩, ka.keep (keep_of (by repeat (first | exact trivial | refine And.intro rfl ?_)))⟩)
        ·
          have h71 : V.length < 200 := (by omega)
          refine RC.seq ?_
          refine RC.region rfl ?_
          refine RL.ev (.move rfl) rfl rfl ?_
          refine RL.ev (.bin rfl rfl rfl) rfl rfl ?_
          refine RL.ev (.move rfl) rfl rfl ?_
          refine RL.split 76 rfl (fun h21 => ?_) (fun h21 => ?_)
          ·
            have he3 : e3 = 0 := h21
            obtain ⟨_, _, hE3, hok3, _, M3', hR3⟩ := (hp3.resolve_left (fun h => by omega)).resolve_left (fun h => by omega)
            refine RL.ev (.loadR ([.slice na A.nodes.length nc, .slice fa A.free.length fc]) sh26 rfl hb_6.row rfl) rfl rfl ?_
            refine RL.ev (.loadR ([.slice na3 B3.nodes.length nc3, .slice fa3 B3.free.length fc3]) sh26 rfl hb_18.row rfl) rfl rfl ?_
            refine RL.ev (.move rfl) rfl rfl ?_
            refine RL.ev (.move rfl) rfl rfl ?_
            refine RL.call rfl ok24 (c_is11 A B3 na fa na3 fa3 nc fc nc3 fc3 r3 hu3 (pushL V back v) M3' wa wc _ (List.length_map _) hok3 hE3 hR3 (by omega) w17 (hA.sub S) (hA3.sub S3) (hw.sub S9)) rfl rfl ?_
            rintro _ w22 ⟨rfl, s23⟩
            have S := S.trans s23
            have S1 := S1.trans s23
            have S2 := S2.trans s23
            have S3 := S3.trans s23
            have hb_6 := hb_6.sub s23
            have hb_18 := hb_18.sub s23
            have S9 := S9.trans s23
            refine RL.ev (.pick_t rfl rfl) rfl rfl ?_
            refine RL.ev (.not rfl) rfl rfl ?_
            refine RL.ev (.move rfl) rfl rfl ?_
            refine RL.off rfl rfl ?_
            refine RL.off rfl rfl ?_
            refine RL.off rfl rfl ?_
            refine RL.off rfl rfl ?_
            refine RL.off rfl rfl ?_
            refine RL.off rfl rfl ?_
            refine RL.off rfl rfl ?_
            refine RL.off rfl rfl ?_
            refine RL.off rfl rfl ?_
            refine RL.ev (.pick_f rfl rfl) rfl rfl ?_
            refine RL.nil (RC.back ?_)
            refine RC.cond_f rfl ?_
            exact RC.skip (fun a ka => ⟨(), ⟨hb_6, hb_18, S1, S2, S⟩, ka.keep (keep_of (by repeat (first | exact trivial | refine And.intro rfl ?_)))⟩)
          ·
            have he3 : ¬ e3 = 0 := h21
            have hfull3 := (hp3.resolve_left (fun h => by omega)).resolve_right (fun h => he3 h.2.1)
            refine RL.off rfl rfl ?_
            refine RL.off rfl rfl ?_
            refine RL.off rfl rfl ?_
            refine RL.off rfl rfl ?_
            refine RL.off rfl rfl ?_
            refine RL.ev (.pick_f rfl rfl) rfl rfl ?_
            refine RL.ev (.not rfl) rfl rfl ?_
            refine RL.ev (.move rfl) rfl rfl ?_
            refine RL.ev (.move rfl) rfl rfl ?_
            refine RL.ev (.as (v' := .bool true) (.bin rfl rfl rfl) (congrArg Value.bool (decide_eq_true (hfull3.2.1)))) rfl rfl ?_
            refine RL.ev (.move rfl) rfl rfl ?_
            refine RL.ev (.move rfl) rfl rfl ?_
            refine RL.ev (.move rfl) rfl rfl ?_
            refine RL.ev (.as (v' := .int .i64 ((pushL V back v).length : Int)) (.len sl22 rfl) (by rw [List.length_map])) rfl rfl ?_
            refine RL.callv rfl rfl (us := []) (cs := [.pointer (some ⟨b_6, 0, none⟩)]) ok23 (c_fewq A na fa nc fc b_6 ((pushL V back v).length : Int) (by omega) (by omega) w17 hb_6) rfl rfl ?_
            rintro _ w24 ⟨rfl, s25⟩
            have S := S.trans s25
            have S1 := S1.trans s25
            have S2 := S2.trans s25
            have S3 := S3.trans s25
            have hb_6 := hb_6.sub s25
            have hb_18 := hb_18.sub s25
            have S9 := S9.trans s25
            refine RL.ev (.pick_t rfl rfl) rfl rfl ?_
            refine RL.ev (.not_dec rfl) rfl rfl ?_
            refine RL.ev (.pick_t rfl rfl) rfl rfl ?_
            refine RL.nil (RC.back ?_)
            refine RC.cond_dec rfl (fun h26 => ?_) (fun h26 => ?_)
            ·
              exact absurd (by omega) h26
            ·
              exact RC.skip (fun a ka => ⟨(), ⟨hb_6, hb_18, S1, S2, S⟩, ka.keep (keep_of (by repeat (first | exact trivial | refine And.intro rfl ?_)))⟩)
      obtain ⟨hb_6, hb_18, S1, S2, S⟩ := hJ
      clear hp3
      refine RC.seq ?_
      refine RC.region rfl ?_
      refine RL.ev (.loadR ([.slice na A.nodes.length nc, .slice fa A.free.length fc]) sh26 rfl hb_6.row rfl) rfl rfl ?_
      refine RL.ev (.move rfl) rfl rfl ?_
      refine RL.ev (.move rfl) rfl rfl ?_
      refine RL.call rfl ok16 (c_dpop A na fa nc fc hnc hfc r back hr _ w19 (hF.sub S)) rfl rfl ?_
      rintro _ w27 ⟨s28, na4, fa4, nc4, fc4, B4, r4, v4, e4, M4, rfl, hu4, _, hn4, hf4, hF4, hup4, _, hz4, hp4⟩
      have d18 : ∀ k, M4 k → k ≠ b_18 := (fun k hk e => hup4.not hb_18.lt (Nat.not_lt.2 ge_18) (e ▸ hk))
      have S := S.trans s28
      have S1 := S1.trans s28
      have S2 := S2.trans s28
      have hb_6 := hb_6.sub s28
      have hb_18 := hb_18.sub s28
      have hp4 := hp4 V P hmV' hV
      refine RL.ev (.move rfl) rfl rfl ?_
      refine RL.ev (.extract rfl rfl) rfl rfl ?_
      refine RL.ev (.extract rfl rfl) rfl rfl ?_
      refine RL.ev (.extract rfl rfl) rfl rfl ?_
      refine RL.ev (.extract rfl rfl) rfl rfl ?_
      refine RL.store sh26 rfl rfl rfl hb_18 (by exact Nat.le_of_ble_eq_true rfl) (by rfl) rfl (fun w29 z29 hb_18 a29 => ?_)
      have S := S.upd a29 ge_18
      have S1 := S1.upd a29 geS1_18
      have S2 := S2.upd a29 geS2_18
      have hb_6 := hb_6.upd a29 n_6__18
      have hF4 := hF4.updD a29 d18
      have hb_18 : Has w29 b_18 ([.slice na4 B4.nodes.length nc4, .slice fa4 B4.free.length fc4]) _ := hb_18.now (by kernel_rfl)
      obtain ⟨W4, S4, hA4⟩ : ∃ W, Sub W w29 ∧ ArR W na4 fa4 B4 := ⟨_, Sub.refl _, hF4.now⟩
      refine RL.ev (.assign rfl) rfl rfl ?_
      refine RL.ev (.assign rfl) rfl rfl ?_
      refine RL.ev (.assign rfl) rfl rfl ?_
      refine RL.nil (RC.back ?_)
      refine RC.cutx (α := Unit) (fun _ => [(1, .int .u64 r), (2, .int .u64 s), (5, .int .i64 p), (6, .pointer (some ⟨b_6, 0, none⟩)), (13, .slice a1 (V.map fun x => [i6 x]).length c1), (15, .slice a2 (U.map fun x => [i6 x]).length c2), (17, .func (.func 23) #[] #[.pointer (some ⟨b_6, 0, none⟩)]), (18, .pointer (some ⟨b_18, 0, none⟩))]) (fun _ w30 => Has w30 b_6 [.slice na A.nodes.length nc, .slice fa A.free.length fc] 26 ∧ Has w30 b_18 [.slice na4 B4.nodes.length nc4, .slice fa4 B4.free.length fc4] 26 ∧ Sub W1 w30 ∧ Sub W2 w30 ∧ Sub w w30) ?_ (fun _ w30 hJ => ?_)
      ·
        refine RC.seq ?_
        refine RC.region rfl ?_
        refine RL.ev (.move rfl) rfl rfl ?_
        refine RL.ev (.as (v' := .int .i64 (V.length : Int)) (.len sl22 rfl) (by rw [List.length_map])) rfl rfl ?_
        refine RL.ev (.assign rfl) rfl rfl ?_
        refine RL.nil (RC.back ?_)
        refine RC.seq ?_
        refine RC.region rfl ?_
        refine RL.ev (.move rfl) rfl rfl ?_
        refine RL.ev (.bin rfl rfl rfl) rfl rfl ?_
        refine RL.nil (RC.back ?_)
        refine RC.cond_dec rfl (fun h31 => ?_) (fun h31 => ?_)
        ·
          have h107 := h31
          refine RC.seq ?_
          refine RC.region rfl ?_
          refine RL.ev (.move rfl) rfl rfl ?_
          refine RL.ev (.as (v' := .bool false) (.bin rfl rfl rfl) (congrArg Value.bool (decide_eq_false (fun h => h (by rcases hp4 with h | h | h; exact h.2; omega; omega))))) rfl rfl ?_
          refine RL.ev (.move rfl) rfl rfl ?_
          refine RL.ev (.move rfl) rfl rfl ?_
          refine RL.ev (.as (v' := .bool false) (.bin rfl rfl rfl) (congrArg Value.bool (decide_eq_false (fun h => h (hz4 (by rcases hp4 with h | h | h; omega; omega; omega)).2.2)))) rfl rfl ?_
          refine RL.ev (.pick_f rfl rfl) rfl rfl ?_
          refine RL.nil (RC.back ?_)
          refine RC.cond_f rfl ?_
          exact RC.skip (fun a ka => ⟨(), ⟨hb_6, hb_18, S1, S2, S⟩, ka.keep (keep_of (by repeat (first | exact trivial | refine And.intro rfl ?_)))⟩)
        ·
          have h107 := h31
          have hVp : 0 < V.length := (by omega)
          have gV0 := get_front hVp
          have gV1 := get_back hVp
          refine RC.seq ?_
          refine RC.draw rfl mxo (by kernel_rfl) ?_
          refine RQ.ev (.move rfl) rfl rfl ?_
          refine RQ.ev (.as (v' := .slice (if c1 = 1 then a1 else a1.map (·.add (1 * 1))) ((popL V false).map fun x => [i6 x]).length (c1 - 1)) (.sliceLo sl22 rfl rfl (by rw [List.length_map]; omega)) (by rw [List.length_map, List.length_map, popL_len]; rfl)) rfl rfl ?_
          refine RQ.ev (.move rfl) rfl rfl ?_
          refine RQ.ev (.indexS sl22 rfl rfl (by rw [List.length_map]; omega) (hs1.is (i := 0) (by simp only [List.length_map]; omega))) rfl rfl ?_
          refine RQ.ev (.load1 sh2 rfl ((hs1.sub S1).one (enc := i6) (i := 0) gV0)) rfl rfl ?_
          refine RQ.ev (.assign rfl) rfl rfl ?_
          refine RQ.ev (.assign rfl) rfl rfl ?_
          refine RQ.nil (fun w32 s33 => RC.back ?_)
          have S := S.trans s33
          have S1 := S1.trans s33
          have S2 := S2.trans s33
          have hb_6 := hb_6.sub s33
          have hb_18 := hb_18.sub s33
          have hF4 := hF4.sub s33
          have S4 := S4.trans s33
          refine RC.cutx (α := Option Addr × Nat) (fun y_ => [(1, .int .u64 r), (2, .int .u64 s), (5, .int .i64 p), (6, .pointer (some ⟨b_6, 0, none⟩)), (13, .slice a1 (V.map fun x => [i6 x]).length c1), (15, .slice a2 (U.map fun x => [i6 x]).length c2), (17, .func (.func 23) #[] #[.pointer (some ⟨b_6, 0, none⟩)]), (18, .pointer (some ⟨b_18, 0, none⟩)), (19, .int .u64 r4), (20, .int .i64 e4), (22, .int .i64 v4), (24, .slice y_.1 ((popL V back).map fun x => [i6 x]).length y_.2), (25, .int .i64 (popV V back))]) (fun y_ w34 => Sl w34 y_.1 1 ((popL V back).map fun x => [i6 x]) ∧ Has w34 b_6 [.slice na A.nodes.length nc, .slice fa A.free.length fc] 26 ∧ Has w34 b_18 [.slice na4 B4.nodes.length nc4, .slice fa4 B4.free.length fc4] 26 ∧ Sub W1 w34 ∧ Sub W2 w34 ∧ Sub W4 w34 ∧ Sub w w34) ?_ (fun y_ w34 hJ => ?_)
          ·
            refine RC.seq ?_
            refine RC.region rfl ?_
            refine RL.ev (.move rfl) rfl rfl ?_
            refine RL.nil (RC.back ?_)
            refine RC.cond rfl (fun h35 => ?_) (fun h35 => ?_)
            ·
              subst h35
              refine RC.draw rfl mxo (by kernel_rfl) ?_
              refine RQ.ev (.move rfl) rfl rfl ?_
              refine RQ.ev (.move rfl) rfl rfl ?_
              refine RQ.ev (.as (.bin rfl rfl rfl) (wi64 (y := ((V.length - 1 : Nat) : Int)) (by omega) (by omega))) rfl rfl ?_
              refine RQ.ev (.as (v' := .slice a1 ((popL V true).map fun x => [i6 x]).length c1) (.sliceHi sl22 rfl rfl (by omega)) (by rw [List.length_map, popL_len]; rfl)) rfl rfl ?_
              refine RQ.ev (.move rfl) rfl rfl ?_
              refine RQ.ev (.move rfl) rfl rfl ?_
              refine RQ.ev (.as (.bin rfl rfl rfl) (wi64 (y := ((V.length - 1 : Nat) : Int)) (by omega) (by omega))) rfl rfl ?_
              refine RQ.ev (.indexS sl22 rfl rfl (by rw [List.length_map]; omega) (hs1.is (i := 0) (by simp only [List.length_map]; omega))) rfl rfl ?_
              refine RQ.ev (.load1 sh2 rfl ((hs1.sub S1).one (enc := i6) (i := V.length - 1) gV1)) rfl rfl ?_
              refine RQ.ev (.assign rfl) rfl rfl ?_
              refine RQ.ev (.assign rfl) rfl rfl ?_
              refine RQ.nil (fun w36 s37 => ?_)
              have S := S.trans s37
              have S1 := S1.trans s37
              have S2 := S2.trans s37
              have hb_6 := hb_6.sub s37
              have hb_18 := hb_18.sub s37
              have hF4 := hF4.sub s37
              have S4 := S4.trans s37
              exact id (fun a ka => ⟨(_, _), ⟨slTakeM (hs1.sub S1) _, hb_6, hb_18, S1, S2, S4, S⟩, ka.keep (keep_of (by repeat (first | exact trivial | refine And.intro rfl ?_)))⟩)
            ·
              subst h35
              exact RC.skip (fun a ka => ⟨(_, _), ⟨slDropM (hs1.sub S1) 1 hc1, hb_6, hb_18, S1, S2, S4, S⟩, ka.keep (keep_of (by repeat (first | exact trivial | refine And.intro rfl ?_)))⟩)
          obtain ⟨za, zc⟩ := y_
          obtain ⟨hz, hb_6, hb_18, S1, S2, S4, S⟩ := hJ
          simp only [] at hz
          obtain ⟨W8, S8, hz⟩ : ∃ W, Sub W w34 ∧ Sl W za 1 ((popL V back).map fun x => [i6 x]) := ⟨_, Sub.refl _, hz⟩
          have hpol := popL_len V back
          refine RC.seq ?_
          refine RC.region rfl ?_
          refine RL.ev (.move rfl) rfl rfl ?_
          refine RL.ev (.bin rfl rfl rfl) rfl rfl ?_
          refine RL.ev (.move rfl) rfl rfl ?_
          refine RL.split 131 rfl (fun h38 => ?_) (fun h38 => ?_)
          ·
            have he4 : e4 = 0 := h38
            obtain ⟨_, _, hv4, hE4, hok4, _, M4', hR4⟩ := (hp4.resolve_left (fun h => by omega)).resolve_left (fun h => by omega)
            refine RL.ev (.move rfl) rfl rfl ?_
            refine RL.ev (.move rfl) rfl rfl ?_
            refine RL.ev (.as (v' := .bool true) (.bin rfl rfl rfl) (congrArg Value.bool (decide_eq_true (hv4)))) rfl rfl ?_
            refine RL.ev (.pick_t rfl rfl) rfl rfl ?_
            refine RL.ev (.move rfl) rfl rfl ?_
            refine RL.ev (.loadR ([.slice na A.nodes.length nc, .slice fa A.free.length fc]) sh26 rfl hb_6.row rfl) rfl rfl ?_
            refine RL.ev (.loadR ([.slice na4 B4.nodes.length nc4, .slice fa4 B4.free.length fc4]) sh26 rfl hb_18.row rfl) rfl rfl ?_
            refine RL.ev (.move rfl) rfl rfl ?_
            refine RL.ev (.move rfl) rfl rfl ?_
            refine RL.call rfl ok24 (c_is11 A B4 na fa na4 fa4 nc fc nc4 fc4 r4 hu4 (popL V back) M4' za zc _ (List.length_map _) hok4 hE4 hR4 (by omega) w34 (hA.sub S) (hA4.sub S4) (hz.sub S8)) rfl rfl ?_
            rintro _ w39 ⟨rfl, s40⟩
            have S := S.trans s40
            have S1 := S1.trans s40
            have S2 := S2.trans s40
            have S4 := S4.trans s40
            have hb_6 := hb_6.sub s40
            have hb_18 := hb_18.sub s40
            have S8 := S8.trans s40
            refine RL.ev (.pick_t rfl rfl) rfl rfl ?_
            refine RL.ev (.not rfl) rfl rfl ?_
            refine RL.ev (.move rfl) rfl rfl ?_
            refine RL.off rfl rfl ?_
            refine RL.off rfl rfl ?_
            refine RL.off rfl rfl ?_
            refine RL.off rfl rfl ?_
            refine RL.off rfl rfl ?_
            refine RL.off rfl rfl ?_
            refine RL.off rfl rfl ?_
            refine RL.off rfl rfl ?_
            refine RL.off rfl rfl ?_
            refine RL.ev (.pick_f rfl rfl) rfl rfl ?_
            refine RL.nil (RC.back ?_)
            refine RC.cond_f rfl ?_
            exact RC.skip (fun a ka => ⟨(), ⟨hb_6, hb_18, S1, S2, S⟩, ka.keep (keep_of (by repeat (first | exact trivial | refine And.intro rfl ?_)))⟩)
          ·
            have he4 : ¬ e4 = 0 := h38
            have hfull4 := (hp4.resolve_left (fun h => by rw [h.1] at hVp; simp at hVp)).resolve_right (fun h => he4 h.2.1)
            refine RL.off rfl rfl ?_
            refine RL.off rfl rfl ?_
            refine RL.off rfl rfl ?_
            refine RL.ev (.pick_f rfl rfl) rfl rfl ?_
            refine RL.ev (.move rfl) rfl rfl ?_
            refine RL.off rfl rfl ?_
            refine RL.off rfl rfl ?_
            refine RL.off rfl rfl ?_
            refine RL.off rfl rfl ?_
            refine RL.off rfl rfl ?_
            refine RL.ev (.pick_f rfl rfl) rfl rfl ?_
            refine RL.ev (.not rfl) rfl rfl ?_
            refine RL.ev (.move rfl) rfl rfl ?_
            refine RL.ev (.move rfl) rfl rfl ?_
            refine RL.ev (.as (v' := .bool true) (.bin rfl rfl rfl) (congrArg Value.bool (decide_eq_true (hfull4.2.1)))) rfl rfl ?_
            refine RL.ev (.move rfl) rfl rfl ?_
            refine RL.ev (.move rfl) rfl rfl ?_
            refine RL.ev (.move rfl) rfl rfl ?_
            refine RL.ev (.as (v' := .int .i64 ((popL V back).length : Int)) (.len sl22 rfl) (by rw [List.length_map])) rfl rfl ?_
            refine RL.callv rfl rfl (us := []) (cs := [.pointer (some ⟨b_6, 0, none⟩)]) ok23 (c_fewq A na fa nc fc b_6 ((popL V back).length : Int) (by omega) (by omega) w34 hb_6) rfl rfl ?_
            rintro _ w41 ⟨rfl, s42⟩
            have S := S.trans s42
            have S1 := S1.trans s42
            have S2 := S2.trans s42
            have S4 := S4.trans s42
            have hb_6 := hb_6.sub s42
            have hb_18 := hb_18.sub s42
            have S8 := S8.trans s42
            refine RL.ev (.pick_t rfl rfl) rfl rfl ?_
            refine RL.ev (.not_dec rfl) rfl rfl ?_
            refine RL.ev (.pick_t rfl rfl) rfl rfl ?_
            refine RL.nil (RC.back ?_)
            refine RC.cond_dec rfl (fun h43 => ?_) (fun h43 => ?_)
            ·
              exact absurd (by omega) h43
            ·
              exact RC.skip (fun a ka => ⟨(), ⟨hb_6, hb_18, S1, S2, S⟩, ka.keep (keep_of (by repeat (first | exact trivial | refine And.intro rfl ?_)))⟩)
      obtain ⟨hb_6, hb_18, S1, S2, S⟩ := hJ
      clear hp4
      refine RC.seq ?_
      refine RC.region rfl ?_
      refine RL.ev (.loadR ([.slice na A.nodes.length nc, .slice fa A.free.length fc]) sh26 rfl hb_6.row rfl) rfl rfl ?_
      refine RL.ev (.move rfl) rfl rfl ?_
      refine RL.ev (.move rfl) rfl rfl ?_
      refine RL.call rfl ok17 (c_dcon A na fa nc fc hnc hfc r s hr hsu _ w30 (hF.sub S)) rfl rfl ?_
      rintro _ w44 ⟨s45, na5, fa5, nc5, fc5, B5, r5, e5, M5, rfl, hu5, hn5, hf5, hF5, hup5, hp5⟩
      have d18 : ∀ k, M5 k → k ≠ b_18 := (fun k hk e => hup5.not hb_18.lt (Nat.not_lt.2 ge_18) (e ▸ hk))
      have S := S.trans s45
      have S1 := S1.trans s45
      have S2 := S2.trans s45
      have hb_6 := hb_6.sub s45
      have hb_18 := hb_18.sub s45
      have hp5 := hp5.2.2 V U P Q hmV' hmU' hV hU
      refine RL.ev (.move rfl) rfl rfl ?_
      refine RL.ev (.extract rfl rfl) rfl rfl ?_
      refine RL.ev (.extract rfl rfl) rfl rfl ?_
      refine RL.ev (.extract rfl rfl) rfl rfl ?_
      refine RL.store sh26 rfl rfl rfl hb_18 (by exact Nat.le_of_ble_eq_true rfl) (by rfl) rfl (fun w46 z46 hb_18 a46 => ?_)
      have S := S.upd a46 ge_18
      have S1 := S1.upd a46 geS1_18
      have S2 := S2.upd a46 geS2_18
      have hb_6 := hb_6.upd a46 n_6__18
      have hF5 := hF5.updD a46 d18
      have hb_18 : Has w46 b_18 ([.slice na5 B5.nodes.length nc5, .slice fa5 B5.free.length fc5]) _ := hb_18.now (by kernel_rfl)
      refine RL.ev (.assign rfl) rfl rfl ?_
      obtain ⟨W5, S5, hA5⟩ : ∃ W, Sub W w46 ∧ ArR W na5 fa5 B5 := ⟨_, Sub.refl _, hF5.now⟩
      refine RL.ev (.assign rfl) rfl rfl ?_
      refine RL.nil (RC.back ?_)
      refine RC.cutx (α := Unit) (fun _ => [(1, .int .u64 r), (5, .int .i64 p), (6, .pointer (some ⟨b_6, 0, none⟩)), (13, .slice a1 (V.map fun x => [i6 x]).length c1), (17, .func (.func 23) #[] #[.pointer (some ⟨b_6, 0, none⟩)]), (18, .pointer (some ⟨b_18, 0, none⟩))]) (fun _ w47 => Has w47 b_6 [.slice na A.nodes.length nc, .slice fa A.free.length fc] 26 ∧ Has w47 b_18 [.slice na5 B5.nodes.length nc5, .slice fa5 B5.free.length fc5] 26 ∧ Sub W1 w47 ∧ Sub w w47) ?_ (fun _ w47 hJ => ?_)
      ·
        refine RC.seq ?_
        refine RC.region rfl ?_
        refine RL.ev (.move rfl) rfl rfl ?_
        refine RL.ev (.as (v' := .int .i64 (V.length : Int)) (.len sl22 rfl) (by rw [List.length_map])) rfl rfl ?_
        refine RL.ev (.move rfl) rfl rfl ?_
        refine RL.ev (.as (v' := .int .i64 (U.length : Int)) (.len sl22 rfl) (by rw [List.length_map])) rfl rfl ?_
        refine RL.ev (.as (.bin rfl rfl rfl) (wi64 (y := (V.length : Int) + U.length) (by rfl) (by omega))) rfl rfl ?_
        refine RL.ev (.bin rfl rfl rfl) rfl rfl ?_
        refine RL.ev (.move rfl) rfl rfl ?_
        refine RL.split 169 rfl (fun h48 => ?_) (fun h48 => ?_)
        ·
          have hgood : (∀ p ∈ P, ¬ p ∈ Q) → V.length + U.length ≤ 200 → False := (fun _ h => by have := h48; omega)
          refine RL.off rfl rfl ?_
          refine RL.off rfl rfl ?_
          refine RL.off rfl rfl ?_
          refine RL.off rfl rfl ?_
          refine RL.off rfl rfl ?_
          refine RL.ev (.pick_t rfl rfl) rfl rfl ?_
          refine RL.nil (RC.back ?_)
          refine RC.cond_t rfl ?_
          refine RC.seq ?_
          refine RC.region rfl ?_
          refine RL.ev (.move rfl) rfl rfl ?_
          refine RL.ev (.as (v' := .bool false) (.bin rfl rfl rfl) (congrArg Value.bool (decide_eq_false (fun h => h (by rcases hp5 with h | h | h; exact h.2; exact (hgood h.1 h.2.1).elim; exact (hgood h.1 h.2.1).elim))))) rfl rfl ?_
          refine RL.nil (RC.back ?_)
          refine RC.cond_f rfl ?_
          exact RC.skip (fun a ka => ⟨(), ⟨hb_6, hb_18, S1, S⟩, ka.keep (keep_of (by repeat (first | exact trivial | refine And.intro rfl ?_)))⟩)
        ·
          have h169 : V.length + U.length ≤ 200 := (by omega)
          refine RL.ev (.loadR ([.slice na A.nodes.length nc, .slice fa A.free.length fc]) sh26 rfl hb_6.row rfl) rfl rfl ?_
          refine RL.ev (.move rfl) rfl rfl ?_
          refine RL.ev (.move rfl) rfl rfl ?_
          refine RL.call rfl ok25 (c_apartD A na fa nc fc (by omega) r s hr hsu hV hU h169 w46 (hA.sub S)) rfl rfl ?_
          rintro _ w49 ⟨rfl, s50⟩
          have S := S.trans s50
          have S1 := S1.trans s50
          have S2 := S2.trans s50
          have hb_6 := hb_6.sub s50
          have hb_18 := hb_18.sub s50
          have S5 := S5.trans s50
          refine RL.ev (.not_dec rfl) rfl rfl ?_
          refine RL.ev (.pick_f rfl rfl) rfl rfl ?_
          refine RL.nil (RC.back ?_)
          refine RC.cond_dec rfl (fun h51 => ?_) (fun h51 => ?_)
          ·
            have hgood : (∀ p ∈ P, ¬ p ∈ Q) → V.length + U.length ≤ 200 → False := (fun h _ => h51 h)
            refine RC.seq ?_
            refine RC.region rfl ?_
            refine RL.ev (.move rfl) rfl rfl ?_
            refine RL.ev (.as (v' := .bool false) (.bin rfl rfl rfl) (congrArg Value.bool (decide_eq_false (fun h => h (by rcases hp5 with h | h | h; exact h.2; exact (hgood h.1 h.2.1).elim; exact (hgood h.1 h.2.1).elim))))) rfl rfl ?_
            refine RL.nil (RC.back ?_)
            refine RC.cond_f rfl ?_
            exact RC.skip (fun a ka => ⟨(), ⟨hb_6, hb_18, S1, S⟩, ka.keep (keep_of (by repeat (first | exact trivial | refine And.intro rfl ?_)))⟩)
          ·
            have hap : ∀ p ∈ P, ¬ p ∈ Q := (by simpa using h51)
            obtain ⟨E2, hE2⟩ : ∃ E2, E2 = w49.heap.size := ⟨_, rfl⟩
            obtain ⟨WE2, hWE2, SE2⟩ : ∃ W, W.heap.size = E2 ∧ Sub W w49 := ⟨_, hE2.symm, Sub.refl _⟩
            have szS := S.size
            have sz1 := S1.size
            have sz2 := S2.size
            have sz5 := S5.size
            have lt6 := hb_6.lt
            have lt18 := hb_18.lt
            rw [← hE2] at szS sz1 sz2 sz5 lt6 lt18
            refine RC.seq ?_
            refine RC.drawD (fun k => False) [] w49.heap.size 28 rfl rfl mxo (fun w52 s53 => ?_)
            have hNN : ∀ k, ((False) ∨ w49.heap.size ≤ k) → w.heap.size ≤ k := fun k e => e.elim (fun e => e.elim) (fun e => Nat.le_trans S.size e)
            have ent_S := S.size
            have ent_S1 := S1.size
            have ent_S2 := S2.size
            have ent_S5 := S5.size
            have ent_SE2 := SE2.size
            have hN0 : ∀ k, w49.heap.size ≤ k → w.heap.size ≤ k := fun k e => Nat.le_trans S.size e
            have ltD_b_6 := hb_6.lt
            have ltD_b_18 := hb_18.lt
            have szD := Nat.le_refl w49.heap.size
            have S := S.trans s53
            have S1 := S1.trans s53
            have S2 := S2.trans s53
            have hb_6 := hb_6.sub s53
            have hb_18 := hb_18.sub s53
            have S5 := S5.trans s53
            have SE2 := SE2.trans s53
            have szD := Nat.le_trans szD s53.size
            refine RD.take 0 rfl (by kernel_rfl) (by kernel_rfl) (by kernel_rfl) (fun w' s' => .move rfl) rfl rfl ?_
            refine RD.take 1 rfl (by kernel_rfl) (by kernel_rfl) (by kernel_rfl) (fun w' s' => .bin rfl rfl rfl) rfl rfl ?_
            refine RD.take 2 rfl (by kernel_rfl) (by kernel_rfl) (by kernel_rfl) (fun w' s' => .move rfl) rfl rfl ?_
            refine RD.split 180 rfl (fun h54 => ?_) (fun h54 => ?_)
            ·
              have he5 : e5 = 0 := h54
              obtain ⟨_, _, _, hE5, hok5, _, M5', hR5⟩ := (hp5.resolve_left (fun h => by omega)).resolve_left (fun h => by omega)
              refine RD.take 3 rfl (by kernel_rfl) (by kernel_rfl) (by kernel_rfl) (fun w' s' => .loadR ([.slice na A.nodes.length nc, .slice fa A.free.length fc]) sh26 rfl (hb_6.step s' (fun e => e.elim (fun e => e.elim) (fun e => Nat.not_le.2 ltD_b_6 e))).row rfl) rfl rfl ?_
              refine RD.take 4 rfl (by kernel_rfl) (by kernel_rfl) (by kernel_rfl) (fun w' s' => .loadR ([.slice na5 B5.nodes.length nc5, .slice fa5 B5.free.length fc5]) sh26 rfl (hb_18.step s' (fun e => e.elim (fun e => e.elim) (fun e => Nat.not_le.2 ltD_b_18 e))).row rfl) rfl rfl ?_
              refine RD.take 5 rfl (by kernel_rfl) (by kernel_rfl) (by kernel_rfl) (fun w' s' => .move rfl) rfl rfl ?_
              refine RD.take 7 rfl (by kernel_rfl) (by kernel_rfl) (by kernel_rfl) (fun w' s' => .move rfl) rfl rfl ?_
              refine RD.take 9 rfl (by kernel_rfl) (by kernel_rfl) (by kernel_rfl) (fun w' s' => .move rfl) rfl rfl ?_
              refine RD.all [6] (by kernel_rfl) rfl (RDs.cons rfl ?_ (RDs.nil))
              refine RL.buildSlice0 sl22 rfl rfl (fun b_184 w_184 e_184 z_184 hb_184 s_184 => ?_)
              have fr_b_184 : w49.heap.size ≤ b_184 := by rw [e_184]; exact szD
              have ge_184 := S.le e_184
              have n_6__184 := hb_6.ne e_184
              have n_18__184 := hb_18.ne e_184
              have S := S.trans s_184
              have geS1_184 := S1.le e_184
              have S1 := S1.trans s_184
              have geS2_184 := S2.le e_184
              have S2 := S2.trans s_184
              have hb_6 := hb_6.sub s_184
              have hb_18 := hb_18.sub s_184
              have geS5_184 := S5.le e_184
              have S5 := S5.trans s_184
              have geSE2_184 := SE2.le e_184
              have SE2 := SE2.trans s_184
              have szD := Nat.le_trans szD s_184.size
              have szE := SE2.size
              rw [hWE2] at szE
              refine RD.back s_184.agr ?_
              refine RD.all [8] (by kernel_rfl) rfl (RDs.cons rfl ?_ (RDs.nil))
              have sz_186 := S.size
              have szS1_186 := S1.size
              have szS2_186 := S2.size
              have ltb_6_186 := hb_6.lt
              have ltb_18_186 := hb_18.lt
              have szS5_186 := S5.size
              have szSE2_186 := SE2.size
              have ltb_184_186 := hb_184.lt
              refine RL.append2 (base := E2) (rows := []) (news := V.map fun x => [i6 x]) sl22 ze2 rfl rfl rfl rfl (.inl (Ows.lit0 hb_184 (by omega))) (hs1.sub S1) (by simp only [List.length_map]) (by intro r hr; obtain ⟨x, _, rfl⟩ := List.mem_map.1 hr; rfl) (by rw [List.all_eq_true]; intro r hr; obtain ⟨x, _, rfl⟩ := List.mem_map.1 hr; rfl) (by (try simp only [List.length_map, List.length_nil, List.length_append, List.length_cons]); omega) (by (try simp only [List.length_map, List.length_nil, List.length_append, List.length_cons]); omega) (by omega) rfl rfl (fun v_186 w_186 hc_186 ho_186 ag_186 ob_186 => ?_)
              have o186 := ho_186 (.inr (Ows.lit0 hb_184 (by omega)))
              have d_o186_b_6 := obNe ob_186 (fun k hk e => n_6__184.symm ((obLit hk).trans e)) hb_6.lt
              have d_o186_b_18 := obNe ob_186 (fun k hk e => n_18__184.symm ((obLit hk).trans e)) hb_18.lt
              have S := S.agrN ag_186 (fun k e => Nat.le_trans (by omega) e.2)
              have S1 := S1.agrN ag_186 (fun k e => Nat.le_trans (by omega) e.2)
              have S2 := S2.agrN ag_186 (fun k e => Nat.le_trans (by omega) e.2)
              have hb_6 := hb_6.step ag_186 (fun e => n_6__184.symm (obLit e.1))
              have hb_18 := hb_18.step ag_186 (fun e => n_18__184.symm (obLit e.1))
              have S5 := S5.agrN ag_186 (fun k e => Nat.le_trans (by omega) e.2)
              have SE2 := SE2.agrN ag_186 (fun k e => Nat.le_trans (by omega) e.2)
              have szD := Nat.le_trans szD ag_186.size
              obtain ⟨a_186, c_186, rfl, k_186⟩ := o186.form
              refine RD.back (ag_186.mono fun k _ e => by have := e.2; omega) ?_
              refine RD.all [10] (by kernel_rfl) rfl (RDs.cons rfl ?_ (RDs.nil))
              have sz_188 := S.size
              have szS1_188 := S1.size
              have szS2_188 := S2.size
              have ltb_6_188 := hb_6.lt
              have ltb_18_188 := hb_18.lt
              have szS5_188 := S5.size
              have szSE2_188 := SE2.size
              refine RL.append2 (base := E2) (rows := V.map fun x => [i6 x]) (news := U.map fun x => [i6 x]) sl22 ze2 rfl rfl rfl rfl (.inl o186) (hs2.sub S2) (by simp only [List.length_map]) (by intro r hr; obtain ⟨x, _, rfl⟩ := List.mem_map.1 hr; rfl) (by rw [List.all_eq_true]; intro r hr; obtain ⟨x, _, rfl⟩ := List.mem_map.1 hr; rfl) (by (try simp only [List.length_map, List.length_nil, List.length_append, List.length_cons]); omega) (by (try simp only [List.length_map, List.length_nil, List.length_append, List.length_cons]); omega) (by omega) rfl rfl (fun v_188 w_188 hc_188 ho_188 ag_188 ob_188 => ?_)
              have o188 := ho_188 (.inr o186)
              have d_o188_b_6 := obNe ob_188 d_o186_b_6 hb_6.lt
              have d_o188_b_18 := obNe ob_188 d_o186_b_18 hb_18.lt
              have S := S.agrN ag_188 (fun k e => Nat.le_trans (by omega) e.2)
              have S1 := S1.agrN ag_188 (fun k e => Nat.le_trans (by omega) e.2)
              have S2 := S2.agrN ag_188 (fun k e => Nat.le_trans (by omega) e.2)
              have hb_6 := hb_6.step ag_188 (fun e => d_o186_b_6 _ e.1 rfl)
              have hb_18 := hb_18.step ag_188 (fun e => d_o186_b_18 _ e.1 rfl)
              have S5 := S5.agrN ag_188 (fun k e => Nat.le_trans (by omega) e.2)
              have SE2 := SE2.agrN ag_188 (fun k e => Nat.le_trans (by omega) e.2)
              have szD := Nat.le_trans szD ag_188.size
              obtain ⟨a_188, c_188, rfl, k_188⟩ := o188.form
              refine RD.back (ag_188.mono fun k _ e => by have := e.2; omega) ?_
              refine RD.all [11] (by kernel_rfl) rfl (RDs.cons rfl ?_ (RDs.nil))
              refine RL.call rfl ok24 (c_is11 A B5 na fa na5 fa5 nc fc nc5 fc5 r5 hu5 (V ++ U) M5' a_188 c_188 _ (by simp) hok5 hE5 hR5 (by rw [List.length_append]; exact h169) w_188 (hA.sub S) (hA5.sub S5) (by rw [List.map_append]; exact o188.sl.1)) rfl rfl ?_
              rintro _ w55 ⟨rfl, s56⟩
              have S := S.trans s56
              have S1 := S1.trans s56
              have S2 := S2.trans s56
              have hb_6 := hb_6.sub s56
              have hb_18 := hb_18.sub s56
              have S5 := S5.trans s56
              have SE2 := SE2.trans s56
              have szD := Nat.le_trans szD s56.size
              have o188 := o188.sub s56
              refine RD.back s56.agr ?_
              refine RD.take 12 rfl (by kernel_rfl) (by kernel_rfl) (by kernel_rfl) (fun w' s' => .pick_t rfl rfl) rfl rfl ?_
              refine RD.take 13 rfl (by kernel_rfl) (by kernel_rfl) (by kernel_rfl) (fun w' s' => .not rfl) rfl rfl ?_
              refine RD.take 14 rfl (by kernel_rfl) (by kernel_rfl) (by kernel_rfl) (fun w' s' => .move rfl) rfl rfl ?_
              refine RD.takeOff 15 rfl (by kernel_rfl) (by kernel_rfl) (by kernel_rfl) rfl rfl ?_
              refine RD.takeOff 16 rfl (by kernel_rfl) (by kernel_rfl) (by kernel_rfl) rfl rfl ?_
              refine RD.takeOff 17 rfl (by kernel_rfl) (by kernel_rfl) (by kernel_rfl) rfl rfl ?_
              refine RD.takeOff 18 rfl (by kernel_rfl) (by kernel_rfl) (by kernel_rfl) rfl rfl ?_
              refine RD.takeOff 19 rfl (by kernel_rfl) (by kernel_rfl) (by kernel_rfl) rfl rfl ?_
              refine RD.takeOff 20 rfl (by kernel_rfl) (by kernel_rfl) (by kernel_rfl) rfl rfl ?_
              refine RD.takeOff 21 rfl (by kernel_rfl) (by kernel_rfl) (by kernel_rfl) rfl rfl ?_
              refine RD.takeOff 22 rfl (by kernel_rfl) (by kernel_rfl) (by kernel_rfl) rfl rfl ?_
              refine RD.takeOff 23 rfl (by kernel_rfl) (by kernel_rfl) (by kernel_rfl) rfl rfl ?_
              refine RD.takeOff 24 rfl (by kernel_rfl) (by kernel_rfl) (by kernel_rfl) rfl rfl ?_
              refine RD.takeOff 25 rfl (by kernel_rfl) (by kernel_rfl) (by kernel_rfl) rfl rfl ?_
              refine RD.takeOff 26 rfl (by kernel_rfl) (by kernel_rfl) (by kernel_rfl) rfl rfl ?_
              refine RD.take 27 rfl (by kernel_rfl) (by kernel_rfl) (by kernel_rfl) (fun w' s' => .pick_f rfl rfl) rfl rfl ?_
              refine RD.done (by kernel_rfl) (RC.back ?_)
              refine RC.cond_f rfl ?_
              exact RC.skip (fun a ka => ⟨(), ⟨hb_6, hb_18, S1, S⟩, ka.keep (keep_of (by repeat (first | exact trivial | refine And.intro rfl ?_)))⟩)
            ·
              have he5 : ¬ e5 = 0 := h54
              have hfull5 := (hp5.resolve_left (fun h => by rcases h.1 with ⟨p, h1, h2⟩ | h1; exact hap p h1 h2; omega)).resolve_right (fun h => he5 h.2.2.1)
              refine RD.takeOff 3 rfl (by kernel_rfl) (by kernel_rfl) (by kernel_rfl) rfl rfl ?_
              refine RD.takeOff 4 rfl (by kernel_rfl) (by kernel_rfl) (by kernel_rfl) rfl rfl ?_
              refine RD.takeOff 5 rfl (by kernel_rfl) (by kernel_rfl) (by kernel_rfl) rfl rfl ?_
              refine RD.takeOff 6 rfl (by kernel_rfl) (by kernel_rfl) (by kernel_rfl) rfl rfl ?_
              refine RD.takeOff 7 rfl (by kernel_rfl) (by kernel_rfl) (by kernel_rfl) rfl rfl ?_
              refine RD.takeOff 8 rfl (by kernel_rfl) (by kernel_rfl) (by kernel_rfl) rfl rfl ?_
              refine RD.takeOff 9 rfl (by kernel_rfl) (by kernel_rfl) (by kernel_rfl) rfl rfl ?_
              refine RD.takeOff 10 rfl (by kernel_rfl) (by kernel_rfl) (by kernel_rfl) rfl rfl ?_
              refine RD.takeOff 11 rfl (by kernel_rfl) (by kernel_rfl) (by kernel_rfl) rfl rfl ?_
              refine RD.take 12 rfl (by kernel_rfl) (by kernel_rfl) (by kernel_rfl) (fun w' s' => .pick_f rfl rfl) rfl rfl ?_
              refine RD.take 13 rfl (by kernel_rfl) (by kernel_rfl) (by kernel_rfl) (fun w' s' => .not rfl) rfl rfl ?_
              refine RD.take 14 rfl (by kernel_rfl) (by kernel_rfl) (by kernel_rfl) (fun w' s' => .move rfl) rfl rfl ?_
              refine RD.take 15 rfl (by kernel_rfl) (by kernel_rfl) (by kernel_rfl) (fun w' s' => .move rfl) rfl rfl ?_
              refine RD.take 16 rfl (by kernel_rfl) (by kernel_rfl) (by kernel_rfl) (fun w' s' => .as (v' := .bool true) (.bin rfl rfl rfl) (congrArg Value.bool (decide_eq_true (hfull5.2.2.1)))) rfl rfl ?_
              refine RD.take 17 rfl (by kernel_rfl) (by kernel_rfl) (by kernel_rfl) (fun w' s' => .move rfl) rfl rfl ?_
              refine RD.take 18 rfl (by kernel_rfl) (by kernel_rfl) (by kernel_rfl) (fun w' s' => .move rfl) rfl rfl ?_
              refine RD.take 19 rfl (by kernel_rfl) (by kernel_rfl) (by kernel_rfl) (fun w' s' => .move rfl) rfl rfl ?_
              refine RD.take 20 rfl (by kernel_rfl) (by kernel_rfl) (by kernel_rfl) (fun w' s' => .as (v' := .int .i64 (V.length : Int)) (.len sl22 rfl) (by rw [List.length_map])) rfl rfl ?_
              refine RD.take 21 rfl (by kernel_rfl) (by kernel_rfl) (by kernel_rfl) (fun w' s' => .move rfl) rfl rfl ?_
              refine RD.take 22 rfl (by kernel_rfl) (by kernel_rfl) (by kernel_rfl) (fun w' s' => .as (v' := .int .i64 (U.length : Int)) (.len sl22 rfl) (by rw [List.length_map])) rfl rfl ?_
              refine RD.take 23 rfl (by kernel_rfl) (by kernel_rfl) (by kernel_rfl) (fun w' s' => .as (.bin rfl rfl rfl) (wi64 (y := (V.length : Int) + U.length) (by rfl) (by omega))) rfl rfl ?_
              refine RD.all [24] (by kernel_rfl) rfl (RDs.cons rfl ?_ (RDs.nil))
              refine RL.callv rfl rfl (us := []) (cs := [.pointer (some ⟨b_6, 0, none⟩)]) ok23 (c_fewq A na fa nc fc b_6 ((V.length : Int) + U.length) (by omega) (by omega) w52 hb_6) rfl rfl ?_
              rintro _ w57 ⟨rfl, s58⟩
              have S := S.trans s58
              have S1 := S1.trans s58
              have S2 := S2.trans s58
              have hb_6 := hb_6.sub s58
              have hb_18 := hb_18.sub s58
              have S5 := S5.trans s58
              have SE2 := SE2.trans s58
              have szD := Nat.le_trans szD s58.size
              refine RD.back s58.agr ?_
              refine RD.take 25 rfl (by kernel_rfl) (by kernel_rfl) (by kernel_rfl) (fun w' s' => .pick_t rfl rfl) rfl rfl ?_
              refine RD.take 26 rfl (by kernel_rfl) (by kernel_rfl) (by kernel_rfl) (fun w' s' => .not_dec rfl) rfl rfl ?_
              refine RD.take 27 rfl (by kernel_rfl) (by kernel_rfl) (by kernel_rfl) (fun w' s' => .pick_t rfl rfl) rfl rfl ?_
              refine RD.done (by kernel_rfl) (RC.back ?_)
              refine RC.cond_dec rfl (fun h59 => ?_) (fun h59 => ?_)
              ·
                exact absurd (by omega) h59
              ·
                exact RC.skip (fun a ka => ⟨(), ⟨hb_6, hb_18, S1, S⟩, ka.keep (keep_of (by repeat (first | exact trivial | refine And.intro rfl ?_)))⟩)
      obtain ⟨hb_6, hb_18, S1, S⟩ := hJ
      clear hp5
      refine RC.seq ?_
      refine RC.region rfl ?_
      refine RL.ev (.loadR ([.slice na A.nodes.length nc, .slice fa A.free.length fc]) sh26 rfl hb_6.row rfl) rfl rfl ?_
      refine RL.ev (.move rfl) rfl rfl ?_
      refine RL.ev (.move rfl) rfl rfl ?_
      refine RL.call rfl ok19 (c_dcut A na fa nc fc hnc hfc r p hr hpI _ w47 (hF.sub S)) rfl rfl ?_
      rintro _ w60 ⟨s61, na6, fa6, nc6, fc6, B6, r6, r7, e6, M6, rfl, hu6, hu7, hn6, hf6, hF6, hup6, _, hz6, hp6⟩
      have d18 : ∀ k, M6 k → k ≠ b_18 := (fun k hk e => hup6.not hb_18.lt (Nat.not_lt.2 ge_18) (e ▸ hk))
      have S := S.trans s61
      have S1 := S1.trans s61
      have hb_6 := hb_6.sub s61
      have hb_18 := hb_18.sub s61
      have hp6 := hp6 V P hmV' hV
      refine RL.ev (.move rfl) rfl rfl ?_
      refine RL.ev (.extract rfl rfl) rfl rfl ?_
      refine RL.ev (.extract rfl rfl) rfl rfl ?_
      refine RL.ev (.extract rfl rfl) rfl rfl ?_
      refine RL.ev (.extract rfl rfl) rfl rfl ?_
      refine RL.store sh26 rfl rfl rfl hb_18 (by exact Nat.le_of_ble_eq_true rfl) (by rfl) rfl (fun w62 z62 hb_18 a62 => ?_)
      have S := S.upd a62 ge_18
      have S1 := S1.upd a62 geS1_18
      have hb_6 := hb_6.upd a62 n_6__18
      have hF6 := hF6.updD a62 d18
      have hb_18 : Has w62 b_18 ([.slice na6 B6.nodes.length nc6, .slice fa6 B6.free.length fc6]) _ := hb_18.now (by kernel_rfl)
      obtain ⟨W6, S6, hA6⟩ : ∃ W, Sub W w62 ∧ ArR W na6 fa6 B6 := ⟨_, Sub.refl _, hF6.now⟩
      refine RL.ev (.assign rfl) rfl rfl ?_
      refine RL.ev (.assign rfl) rfl rfl ?_
      refine RL.ev (.assign rfl) rfl rfl ?_
      refine RL.nil (RC.back ?_)
      refine RC.seq ?_
      refine RC.seq ?_
      refine RC.region rfl ?_
      refine RL.ev (.move rfl) rfl rfl ?_
      refine RL.ev (.bin rfl rfl rfl) rfl rfl ?_
      refine RL.ev (.move rfl) rfl rfl ?_
      refine RL.split 217 rfl (fun h63 => ?_) (fun h63 => ?_)
      ·
        have hbad : ¬ (0 ≤ p ∧ p ≤ V.length) := (by omega)
        refine RL.off rfl rfl ?_
        refine RL.off rfl rfl ?_
        refine RL.off rfl rfl ?_
        refine RL.off rfl rfl ?_
        refine RL.ev (.pick_t rfl rfl) rfl rfl ?_
        refine RL.nil (RC.back ?_)
        refine RC.cond_t rfl ?_
        refine RC.seq ?_
        refine RC.region rfl ?_
        refine RL.call rfl ok13 (c_alive11 w62) rfl rfl ?_
        rintro _ w64 ⟨rfl, s65⟩
        have S := S.trans s65
        have S1 := S1.trans s65
        have hb_6 := hb_6.sub s65
        have hb_18 := hb_18.sub s65
        have S6 := S6.trans s65
        refine RL.ev (.move rfl) rfl rfl ?_
        refine RL.ev (.move rfl) rfl rfl ?_
        refine RL.ev (.as (v' := .bool true) (.bin rfl rfl rfl) (congrArg Value.bool (decide_eq_true (by rcases hp6 with h | h | h; exact h.2; exact absurd ⟨h.1, h.2.1⟩ hbad; exact absurd ⟨h.1, h.2.1⟩ hbad)))) rfl rfl ?_
        refine RL.ev (.pick_t rfl rfl) rfl rfl ?_
        refine RL.ev (.move rfl) rfl rfl ?_
        refine RL.ev (.move rfl) rfl rfl ?_
        refine RL.ev (.as (v' := .bool true) (.bin rfl rfl rfl) (congrArg Value.bool (decide_eq_true ((hz6 (by rcases hp6 with h | h | h; omega; omega; exact absurd ⟨h.1, h.2.1⟩ hbad)).2.1)))) rfl rfl ?_
        refine RL.ev (.pick_t rfl rfl) rfl rfl ?_
        refine RL.ev (.move rfl) rfl rfl ?_
        refine RL.ev (.move rfl) rfl rfl ?_
        refine RL.ev (.as (v' := .bool true) (.bin rfl rfl rfl) (congrArg Value.bool (decide_eq_true ((hz6 (by rcases hp6 with h | h | h; omega; omega; exact absurd ⟨h.1, h.2.1⟩ hbad)).2.2)))) rfl rfl ?_
        refine RL.ev (.pick_t rfl rfl) rfl rfl ?_
        refine RL.ev (.assign rfl) rfl rfl ?_
        refine RL.nil (RC.back ?_)
        refine RC.done (rs := [.tmp 12]) (vs := [_]) rfl rfl ⟨rfl, trivial⟩ ?_
        -- end 3
        exact ⟨rfl, S⟩
      ·
        refine RL.ev (.move rfl) rfl rfl ?_
        refine RL.ev (.move rfl) rfl rfl ?_
        refine RL.ev (.as (v' := .int .i64 (V.length : Int)) (.len sl22 rfl) (by rw [List.length_map])) rfl rfl ?_
        refine RL.ev (.bin rfl rfl rfl) rfl rfl ?_
        refine RL.ev (.pick_f rfl rfl) rfl rfl ?_
        refine RL.nil (RC.back ?_)
        refine RC.cond_dec rfl (fun h66 => ?_) (fun h66 => ?_)
        ·
          have hbad : ¬ (0 ≤ p ∧ p ≤ V.length) := (by omega)
          refine RC.seq ?_
          refine RC.region rfl ?_
          refine RL.call rfl ok13 (c_alive11 w62) rfl rfl ?_
          rintro _ w67 ⟨rfl, s68⟩
          have S := S.trans s68
          have S1 := S1.trans s68
          have hb_6 := hb_6.sub s68
          have hb_18 := hb_18.sub s68
          have S6 := S6.trans s68
          refine RL.ev (.move rfl) rfl rfl ?_
          refine RL.ev (.move rfl) rfl rfl ?_
          refine RL.ev (.as (v' := .bool true) (.bin rfl rfl rfl) (congrArg Value.bool (decide_eq_true (by rcases hp6 with h | h | h; exact h.2; exact absurd ⟨h.1, h.2.1⟩ hbad; exact absurd ⟨h.1, h.2.1⟩ hbad)))) rfl rfl ?_
          refine RL.ev (.pick_t rfl rfl) rfl rfl ?_
          refine RL.ev (.move rfl) rfl rfl ?_
          refine RL.ev (.move rfl) rfl rfl ?_
          refine RL.ev (.as (v' := .bool true) (.bin rfl rfl rfl) (congrArg Value.bool (decide_eq_true ((hz6 (by rcases hp6 with h | h | h; omega; omega; exact absurd ⟨h.1, h.2.1⟩ hbad)).2.1)))) rfl rfl ?_
          refine RL.ev (.pick_t rfl rfl) rfl rfl ?_
          refine RL.ev (.move rfl) rfl rfl ?_
          refine RL.ev (.move rfl) rfl rfl ?_
          refine RL.ev (.as (v' := .bool true) (.bin rfl rfl rfl) (congrArg Value.bool (decide_eq_true ((hz6 (by rcases hp6 with h | h | h; omega; omega; exact absurd ⟨h.1, h.2.1⟩ hbad)).2.2)))) rfl rfl ?_
          refine RL.ev (.pick_t rfl rfl) rfl rfl ?_
          refine RL.ev (.assign rfl) rfl rfl ?_
          refine RL.nil (RC.back ?_)
          refine RC.done (rs := [.tmp 12]) (vs := [_]) rfl rfl ⟨rfl, trivial⟩ ?_
          -- end 4
          exact ⟨rfl, S⟩
        ·
          have hpr : 0 ≤ p ∧ p ≤ V.length := ⟨by omega, by omega⟩
          obtain ⟨q, rfl⟩ := Int.eq_ofNat_of_zero_le hpr.1
          have hq : q ≤ V.length := (by omega)
          refine RC.skip (RC.back ?_)
          refine RC.seq ?_
          refine RC.draw rfl mxo (by kernel_rfl) ?_
          refine RQ.call rfl ok13 (fun w' s' => c_alive11 w') rfl rfl ?_
          refine RQ.ev (.move rfl) rfl rfl ?_
          refine RQ.ev (.move rfl) rfl rfl ?_
          refine RQ.ev (.bin rfl rfl rfl) rfl rfl ?_
          refine RQ.ev (.move rfl) rfl rfl ?_
          refine RQ.split 240 rfl (fun h69 => ?_) (fun h69 => ?_)
          ·
            have he6 : e6 = 0 := h69
            obtain ⟨_, _, _, hE6, hok6, _, M6', N6, hR6, hR7, hdj⟩ := (hp6.resolve_left (fun h => by omega)).resolve_left (fun h => by omega)
            rw [Int.toNat_natCast] at hR6 hR7
            refine RQ.ev (.loadR ([.slice na A.nodes.length nc, .slice fa A.free.length fc]) sh26 rfl hb_6.row rfl) rfl rfl ?_
            refine RQ.ev (.loadR ([.slice na6 B6.nodes.length nc6, .slice fa6 B6.free.length fc6]) sh26 rfl hb_18.row rfl) rfl rfl ?_
            refine RQ.ev (.move rfl) rfl rfl ?_
            refine RQ.ev (.move rfl) rfl rfl ?_
            refine RQ.ev (.move rfl) rfl rfl ?_
            refine RQ.ev (.as (v' := .slice a1 ((V.take q).map fun x => [i6 x]).length c1) (.sliceHi sl22 rfl rfl (by omega)) (by rw [List.length_map, List.length_take, Nat.min_eq_left hq]; rfl)) rfl rfl ?_
            refine RQ.call rfl ok24 (fun w' s' => c_is11 A B6 na fa na6 fa6 nc fc nc6 fc6 r6 hu6 (V.take q) M6' a1 c1 _ (List.length_map _) hok6 hE6 hR6 (by rw [List.length_take]; omega) w' (hA.sub (S.trans s')) (hA6.sub (S6.trans s')) (slTakeM (hs1.sub (S1.trans s')) q)) rfl rfl ?_
            refine RQ.ev (.pick_t rfl rfl) rfl rfl ?_
            refine RQ.ev (.move rfl) rfl rfl ?_
            refine RQ.ev (.loadR ([.slice na A.nodes.length nc, .slice fa A.free.length fc]) sh26 rfl hb_6.row rfl) rfl rfl ?_
            refine RQ.ev (.loadR ([.slice na6 B6.nodes.length nc6, .slice fa6 B6.free.length fc6]) sh26 rfl hb_18.row rfl) rfl rfl ?_
            refine RQ.ev (.move rfl) rfl rfl ?_
            refine RQ.ev (.move rfl) rfl rfl ?_
            refine RQ.ev (.move rfl) rfl rfl ?_
            refine RQ.ev (.as (v' := .slice (if c1 = q then a1 else a1.map (·.add (q * 1))) ((V.drop q).map fun x => [i6 x]).length (c1 - q)) (.sliceLo sl22 rfl rfl (by rw [List.length_map]; omega)) (by rw [List.length_map, List.length_map, List.length_drop]; rfl)) rfl rfl ?_
            refine RQ.call rfl ok24 (fun w' s' => c_is11 A B6 na fa na6 fa6 nc fc nc6 fc6 r7 hu7 (V.drop q) N6 _ _ _ (List.length_map _) hok6 hE6 hR7 (by rw [List.length_drop]; omega) w' (hA.sub (S.trans s')) (hA6.sub (S6.trans s')) (slDropM (hs1.sub (S1.trans s')) q hc1)) rfl rfl ?_
            refine RQ.ev (.pick_t rfl rfl) rfl rfl ?_
            refine RQ.ev (.move rfl) rfl rfl ?_
            refine RQ.ev (.loadR ([.slice na6 B6.nodes.length nc6, .slice fa6 B6.free.length fc6]) sh26 rfl hb_18.row rfl) rfl rfl ?_
            refine RQ.ev (.move rfl) rfl rfl ?_
            refine RQ.ev (.move rfl) rfl rfl ?_
            refine RQ.call rfl ok25 (fun w' s' => c_apartY B6 na6 fa6 nc6 fc6 (by have := hok6.most; omega) r6 r7 hu6 hu7 ((apartB_iff hR6 hR7 (by rw [List.length_take, List.length_drop]; omega)).2 hdj) w' (hA6.sub (S6.trans s'))) rfl rfl ?_
            refine RQ.ev (.pick_t rfl rfl) rfl rfl ?_
            refine RQ.ev (.move rfl) rfl rfl ?_
            refine RQ.off rfl rfl ?_
            refine RQ.off rfl rfl ?_
            refine RQ.off rfl rfl ?_
            refine RQ.off rfl rfl ?_
            refine RQ.off rfl rfl ?_
            refine RQ.off rfl rfl ?_
            refine RQ.off rfl rfl ?_
            refine RQ.off rfl rfl ?_
            refine RQ.ev (.pick_t rfl rfl) rfl rfl ?_
            refine RQ.ev (.pick_t rfl rfl) rfl rfl ?_
            refine RQ.ev (.assign rfl) rfl rfl ?_
            refine RQ.nil (fun w70 s71 => RC.back ?_)
            have S := S.trans s71
            have S1 := S1.trans s71
            have hb_6 := hb_6.sub s71
            have hb_18 := hb_18.sub s71
            have S6 := S6.trans s71
            refine RC.done (rs := [.tmp 12]) (vs := [_]) rfl rfl ⟨rfl, trivial⟩ ?_
            -- end 5
            exact ⟨rfl, S⟩
          ·
            have he6 : ¬ e6 = 0 := h69
            have hfull6 := (hp6.resolve_left (fun h => h.1 hpr)).resolve_right (fun h => he6 h.2.2.1)
            refine RQ.off rfl rfl ?_
            refine RQ.off rfl rfl ?_
            refine RQ.off rfl rfl ?_
            refine RQ.off rfl rfl ?_
            refine RQ.off rfl rfl ?_
            refine RQ.off rfl rfl ?_
            refine RQ.off rfl rfl ?_
            refine RQ.ev (.pick_f rfl rfl) rfl rfl ?_
            refine RQ.ev (.move rfl) rfl rfl ?_
            refine RQ.off rfl rfl ?_
            refine RQ.off rfl rfl ?_
            refine RQ.off rfl rfl ?_
            refine RQ.off rfl rfl ?_
            refine RQ.off rfl rfl ?_
            refine RQ.off rfl rfl ?_
            refine RQ.off rfl rfl ?_
            refine RQ.ev (.pick_f rfl rfl) rfl rfl ?_
            refine RQ.ev (.move rfl) rfl rfl ?_
            refine RQ.off rfl rfl ?_
            refine RQ.off rfl rfl ?_
            refine RQ.off rfl rfl ?_
            refine RQ.off rfl rfl ?_
            refine RQ.ev (.pick_f rfl rfl) rfl rfl ?_
            refine RQ.ev (.move rfl) rfl rfl ?_
            refine RQ.ev (.move rfl) rfl rfl ?_
            refine RQ.ev (.as (v' := .bool true) (.bin rfl rfl rfl) (congrArg Value.bool (decide_eq_true (hfull6.2.2.1)))) rfl rfl ?_
            refine RQ.ev (.move rfl) rfl rfl ?_
            refine RQ.ev (.move rfl) rfl rfl ?_
            refine RQ.ev (.move rfl) rfl rfl ?_
            refine RQ.ev (.as (v' := .int .i64 (V.length : Int)) (.len sl22 rfl) (by rw [List.length_map])) rfl rfl ?_
            refine RQ.callv rfl rfl (us := []) (cs := [.pointer (some ⟨b_6, 0, none⟩)]) ok23 (fun w' s' => c_fewq A na fa nc fc b_6 (V.length : Int) (by omega) (by omega) w' (hb_6.sub s')) rfl rfl ?_
            refine RQ.ev (.pick_t rfl rfl) rfl rfl ?_
            refine RQ.ev (.pick_f rfl rfl) rfl rfl ?_
            refine RQ.ev (.pick_t rfl rfl) rfl rfl ?_
            refine RQ.ev (.assign rfl) rfl rfl ?_
            refine RQ.nil (fun w72 s73 => RC.back ?_)
            have S := S.trans s73
            have S1 := S1.trans s73
            have hb_6 := hb_6.sub s73
            have hb_18 := hb_18.sub s73
            have S6 := S6.trans s73
            refine RC.done (rs := [.tmp 12]) (vs := [_]) rfl rfl ⟨rfl, trivial⟩ ?_
            -- end 6
            exact ⟨congrArg Value.bool (decide_eq_true (by omega)), S⟩
end Go.Proofs.Ytefakjhfcgjhgaa
