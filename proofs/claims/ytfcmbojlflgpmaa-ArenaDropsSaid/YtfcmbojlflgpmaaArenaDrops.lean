/-
  The statement ArenaDrops.
-/
import Derived.Test.YtfcmbojlflgpmaaArenaLike
set_option linter.unusedVariables false
set_option linter.unusedSimpArgs false
namespace Go.Proofs.Ytfcmbojlflgpmaa
open Go Go.XL

theorem drop_bad {A C : Ar} {l : List Int} {f : Int} {T : Prop} (hb : ¬ AOk A ∨ dropAll A l = none) (h0 : f = 0 → AOk A ∧ dropAll A l = some C) (h1 : ¬ f = 0 → C = ar0 ∧ f = 1 ∧ T) : C = ar0 ∧ f = 1 := by
  have hf : ¬ f = 0 := fun e => by
    have := h0 e
    rcases hb with h | h
    · exact h this.1
    · rw [h] at this; cases this.2
  exact ⟨(h1 hf).1, (h1 hf).2.1⟩
theorem drop_good {A B C : Ar} {l : List Int} {f : Int} (ha : AOk A) (hb : dropAll A l = some B) (h0 : f = 0 → AOk A ∧ dropAll A l = some C) (h1 : ¬ f = 0 → C = ar0 ∧ f = 1 ∧ (¬ AOk A ∨ dropAll A l = none)) : f = 0 ∧ C = B := by
  by_cases hf : f = 0
  · have := (h0 hf).2
    rw [hb] at this
    cases this
    exact ⟨hf, rfl⟩
  · rcases (h1 hf).2.2 with h | h
    · exact absurd ha h
    · rw [hb] at h; cases h
theorem likeB_eq {A B : Ar} (h : A = B) : likeB A B = true := by subst h; exact decide_eq_true ⟨rfl, rfl⟩
set_option maxHeartbeats 4000000 in
theorem law_ArenaDrops (w : World) (A : Ar) (na fa : Option Addr) (nc fc : Nat) (hnc : A.nodes.length ≤ nc) (hfc : A.free.length ≤ fc) (hA : ArR w na fa A) (l : List Int) (pa : Option Addr) (pc : Nat) (hlc : l.length ≤ pc) (hs : Sl w pa 1 (l.map fun x => [i6 x])) (hli : ∀ x ∈ l, I64 x) :
    FC Try.prog 3 [arV na fa nc fc A, .slice pa l.length pc] w (Val (.bool true) w) := by
  have hfN : (fewA A).nodes.length ≤ nc := by simp only [fewA, List.length_take]; omega
  have hfF : (fewA A).free.length ≤ fc := by simp only [fewA, List.length_take]; omega
  have hf40 : (fewA A).nodes.length ≤ 40 := by simp only [fewA, List.length_take]; omega
  have hf42 : (fewA A).free.length ≤ 42 := by simp only [fewA, List.length_take]; omega
  have hA' := fewA_R hA
  have hAn := hA'.nodes
  have hAf := hA'.free
  have hml : ((fewA A).nodes.map Node.cells).length = (fewA A).nodes.length := List.length_map _
  have hl10 : (l.take 10).length ≤ 10 := by simp only [List.length_take]; omega
  have hs' : Sl w pa 1 ((l.take 10).map fun x => [i6 x]) := by rw [List.map_take]; exact hs.take 10
  have hli' : ∀ x ∈ l.take 10, I64 x := fun x hx => hli x (List.mem_of_mem_take hx)
  refine FC.intro Try.func3 rfl Try.ntmps3 rfl ?_
  have S := Sub.refl w
  refine RC.seq ?_
  refine RC.region rfl ?_
  refine RL.box rfl rfl rfl (fun b_2 w_2 e_2 z_2 hb_2 s_2 => ?_)
  have ge_2 := S.le e_2
  have S := S.trans s_2
  have hb_2 : Has w_2 b_2 ([.slice na A.nodes.length nc, .slice fa A.free.length fc]) _ := hb_2
  refine RL.ev (.assign rfl) rfl rfl ?_
  refine RL.nil (RC.back ?_)
  refine RC.seq ?_
  refine RC.drawD (fun k => k = b_2) [7] w_2.heap.size 9 rfl rfl mxo (fun w1 s2 => ?_)
  have hNN : ∀ k, ((k = b_2) ∨ w_2.heap.size ≤ k) → w.heap.size ≤ k := fun k e => e.elim (fun e => e ▸ ge_2) (fun e => Nat.le_trans S.size e)
  have ent_S := S.size
  have hN0 : ∀ k, w_2.heap.size ≤ k → w.heap.size ≤ k := fun k e => Nat.le_trans S.size e
  have ltD_b_2 := hb_2.lt
  have szD := Nat.le_refl w_2.heap.size
  have S := S.trans s2
  have hb_2 := hb_2.sub s2
  have szD := Nat.le_trans szD s2.size
  refine RD.takeL 0 rfl (by kernel_rfl) (by kernel_rfl) (by kernel_rfl) (by kernel_rfl) (fun w' s' => .loadR ([.slice na A.nodes.length nc, .slice fa A.free.length fc]) sh25 rfl (hb_2.step s' (fun e => Nat.not_le.2 ltD_b_2 e)).row rfl) rfl rfl ?_
  refine RD.take 2 rfl (by kernel_rfl) (by kernel_rfl) (by kernel_rfl) (fun w' s' => .move rfl) rfl rfl ?_
  refine RD.take 3 rfl (by kernel_rfl) (by kernel_rfl) (by kernel_rfl) (fun w' s' => .move rfl) rfl rfl ?_
  refine RD.take 4 rfl (by kernel_rfl) (by kernel_rfl) (by kernel_rfl) (fun w' s' => .len sl23 rfl) rfl rfl ?_
  refine RD.take 5 rfl (by kernel_rfl) (by kernel_rfl) (by kernel_rfl) (fun w' s' => .min2 rfl rfl) rfl rfl ?_
  refine RD.take 6 rfl (by kernel_rfl) (by kernel_rfl) (by kernel_rfl) (fun w' s' => .as (v' := .slice pa (l.take 10).length pc) (.sliceHi sl23 rfl rfl (by split <;> omega)) (by rw [← few_len]; rfl)) rfl rfl ?_
  refine RD.all [1] (by kernel_rfl) rfl (RDs.cons rfl ?_ (RDs.nil))
  refine RL.call rfl ok9 (c_few A na fa nc fc hnc hfc w1) rfl rfl ?_
  rintro _ w3 ⟨rfl, s4⟩
  have S := S.trans s4
  have hb_2 := hb_2.sub s4
  have szD := Nat.le_trans szD s4.size
  refine RD.back s4.agr ?_
  refine RD.all [7] (by kernel_rfl) rfl (RDs.cons rfl ?_ (RDs.nil))
  refine RL.store sh25 rfl rfl rfl hb_2 (by exact Nat.le_of_ble_eq_true rfl) (by rfl) rfl (fun w5 z5 hb_2 a5 => ?_)
  have S := S.upd a5 ge_2
  have szD := Nat.le_trans szD a5.size
  have hb_2 : Has w5 b_2 ([.slice na (fewA A).nodes.length nc, .slice fa (fewA A).free.length fc]) _ := hb_2.now (by kernel_rfl)
  refine RD.backW rfl (a5.mono fun k _ e => e ▸ (.inl (rfl))) ?_
  refine RD.take 8 rfl (by kernel_rfl) (by kernel_rfl) (by kernel_rfl) (fun w' s' => .assign rfl) rfl rfl ?_
  refine RD.done (by kernel_rfl) (RC.back ?_)
  refine RC.seq ?_
  refine RC.region rfl ?_
  refine RL.ev (.loadR ([.slice na (fewA A).nodes.length nc, .slice fa (fewA A).free.length fc]) sh25 rfl hb_2.row rfl) rfl rfl ?_
  refine RL.ev (.move rfl) rfl rfl ?_
  refine RL.call rfl ok10 (c_aDrop (fewA A) na fa nc fc (l.take 10) pa pc (by omega) hli' w5 (hA'.sub S) hfF (hs'.sub S)) rfl rfl ?_
  rintro _ w6 ⟨s7, hr2⟩
  obtain ⟨nd', fd', ncd, fcd, C, f, rfl, hnC, hfC, hiC, hf0, hf1⟩ := drop_form hr2
  have hC := hiC.now (hA'.sub S)
  have S := S.trans s7
  have hb_2 := hb_2.sub s7
  obtain ⟨W5, S5, hC⟩ : ∃ W5, Sub W5 w6 ∧ ArR W5 nd' fd' C := ⟨_, Sub.refl _, hC⟩
  refine RL.ev (.move rfl) rfl rfl ?_
  refine RL.ev (.extract rfl rfl) rfl rfl ?_
  refine RL.ev (.extract rfl rfl) rfl rfl ?_
  refine RL.alloc ze25 rfl rfl (fun b_5 w_5 e_5 z_5 hb_5 s_5 => ?_)
  have ge_5 := S.le e_5
  have n_2__5 := hb_2.ne e_5
  have S := S.trans s_5
  have hb_2 := hb_2.sub s_5
  have geS5_5 := S5.le e_5
  have S5 := S5.trans s_5
  refine RL.store sh25 rfl rfl rfl hb_5 (by exact Nat.le_of_ble_eq_true rfl) (by rfl) rfl (fun w8 z8 hb_5 a8 => ?_)
  have S := S.upd a8 ge_5
  have hb_2 := hb_2.upd a8 n_2__5
  have S5 := S5.upd a8 geS5_5
  have hb_5 : Has w8 b_5 ([.slice nd' C.nodes.length ncd, .slice fd' C.free.length fcd]) _ := hb_5.now (by kernel_rfl)
  refine RL.ev (.assign rfl) rfl rfl ?_
  refine RL.nil (RC.back ?_)
  refine RC.seq ?_
  refine RC.region rfl ?_
  refine RL.ev (.loadR ([.slice na (fewA A).nodes.length nc, .slice fa (fewA A).free.length fc]) sh25 rfl hb_2.row rfl) rfl rfl ?_
  refine RL.call rfl ok11 (c_r4Right (fewA A) na fa nc fc w8 (hA'.sub S)) rfl rfl ?_
  rintro _ w9 ⟨rfl, s10⟩
  have S := S.trans s10
  have hb_2 := hb_2.sub s10
  have S5 := S5.trans s10
  have hb_5 := hb_5.sub s10
  refine RL.ev (.assign rfl) rfl rfl ?_
  obtain ⟨E, hE⟩ : ∃ E, E = w9.heap.size := ⟨_, rfl⟩
  have lt2 := hb_2.lt
  have lt5 := hb_5.lt
  have szS := S.size
  have szS5 := S5.size
  rw [← hE] at lt2 lt5 szS szS5
  refine RL.nil (RC.back ?_)
  refine RC.cutx (α := Nat × (Option Addr × Nat) × (Option Addr × Nat)) (fun m_ => [(1, .slice pa (l.take 10).length pc), (2, .pointer (some ⟨b_2, 0, none⟩)), (5, .pointer (some ⟨b_5, 0, none⟩)), (6, .int .i64 f), (7, .bool (aokB (fewA A))), (8, .pointer (some ⟨m_.1, 0, none⟩))]) (fun m_ w11 => b_2 ≠ m_.1 ∧ b_5 ≠ m_.1 ∧ E ≤ m_.1 ∧ Has w11 b_2 [.slice na (fewA A).nodes.length nc, .slice fa (fewA A).free.length fc] 25 ∧ Has w11 b_5 [.slice nd' C.nodes.length ncd, .slice fd' C.free.length fcd] 25 ∧ Has w11 m_.1 [.slice m_.2.1.1 ((fewA A).nodes.map Node.cells).length m_.2.1.2, .slice m_.2.2.1 ((fewA A).free.map fun x => [i6 x]).length m_.2.2.2] 25 ∧ Own E w11 35 16 (.slice m_.2.1.1 ((fewA A).nodes.map Node.cells).length m_.2.1.2) ((fewA A).nodes.map Node.cells) ∧ Own E w11 3 1 (.slice m_.2.2.1 ((fewA A).free.map fun x => [i6 x]).length m_.2.2.2) ((fewA A).free.map fun x => [i6 x]) ∧ (∀ k, ob (.slice m_.2.1.1 ((fewA A).nodes.map Node.cells).length m_.2.1.2) = some k → k ≠ m_.1) ∧ (∀ k, ob (.slice m_.2.2.1 ((fewA A).free.map fun x => [i6 x]).length m_.2.2.2) = some k → k ≠ m_.1) ∧ (∀ k, ob (.slice m_.2.2.1 ((fewA A).free.map fun x => [i6 x]).length m_.2.2.2) = some k → ob (.slice m_.2.1.1 ((fewA A).nodes.map Node.cells).length m_.2.1.2) = some k → False) ∧ Sub W5 w11 ∧ Sub w w11) ?_ (fun m_ w11 hJ => ?_)
  ·
    refine RC.drawD (fun k => False) [10] w9.heap.size 11 rfl rfl mxo (fun w12 s13 => ?_)
    have hNN : ∀ k, ((False) ∨ w9.heap.size ≤ k) → w.heap.size ≤ k := fun k e => e.elim (fun e => e.elim) (fun e => Nat.le_trans S.size e)
    have ent_S := S.size
    have ent_S5 := S5.size
    have hN0 : ∀ k, w9.heap.size ≤ k → w.heap.size ≤ k := fun k e => Nat.le_trans S.size e
    have ltD_b_2 := hb_2.lt
    have ltD_b_5 := hb_5.lt
    have szD := Nat.le_refl w9.heap.size
    have S := S.trans s13
    have hb_2 := hb_2.sub s13
    have S5 := S5.trans s13
    have hb_5 := hb_5.sub s13
    have szD := Nat.le_trans szD s13.size
    refine RD.take 1 rfl (by kernel_rfl) (by kernel_rfl) (by kernel_rfl) (fun w' s' => .field0 fo25_0 rfl) rfl rfl ?_
    refine RD.take 2 rfl (by kernel_rfl) (by kernel_rfl) (by kernel_rfl) (fun w' s' => .load1 sh22 rfl ((hb_2.step s' (fun e => e.elim (fun e => e.elim) (fun e => Nat.not_le.2 ltD_b_2 e))).cell rfl)) rfl rfl ?_
    refine RD.take 5 rfl (by kernel_rfl) (by kernel_rfl) (by kernel_rfl) (fun w' s' => .field0 fo25_1 rfl) rfl rfl ?_
    refine RD.take 6 rfl (by kernel_rfl) (by kernel_rfl) (by kernel_rfl) (fun w' s' => .load1 sh23 rfl ((hb_2.step s' (fun e => e.elim (fun e => e.elim) (fun e => Nat.not_le.2 ltD_b_2 e))).cell rfl)) rfl rfl ?_
    refine RD.all [0, 4, 9] (by kernel_rfl) rfl (RDs.cons rfl ?_ (RDs.cons rfl ?_ (RDs.cons rfl ?_ (RDs.nil))))
    ·
      refine RL.buildSlice0 sl22 rfl rfl (fun b_27 w_27 e_27 z_27 hb_27 s_27 => ?_)
      have fr_b_27 : w9.heap.size ≤ b_27 := by rw [e_27]; exact szD
      have ge_27 := S.le e_27
      have n_2__27 := hb_2.ne e_27
      have n_5__27 := hb_5.ne e_27
      have S := S.trans s_27
      have hb_2 := hb_2.sub s_27
      have geS5_27 := S5.le e_27
      have S5 := S5.trans s_27
      have hb_5 := hb_5.sub s_27
      have szD := Nat.le_trans szD s_27.size
      refine RD.back s_27.agr ?_
      refine RD.all [3, 4, 9] (by kernel_rfl) rfl (RDs.cons rfl ?_ (RDs.cons rfl ?_ (RDs.cons rfl ?_ (RDs.nil))))
      ·
        have sz_30 := S.size
        have ltb_2_30 := hb_2.lt
        have szS5_30 := S5.size
        have ltb_5_30 := hb_5.lt
        have ltb_27_30 := hb_27.lt
        refine RL.append2 (base := E) (rows := []) (news := (fewA A).nodes.map Node.cells) sl22 ze35 rfl rfl rfl rfl (.inl (Own.lit0 hb_27 (by omega))) (hAn.sub S) (by simp only [List.length_map]) (by intro r hr; obtain ⟨x, _, rfl⟩ := List.mem_map.1 hr; rfl) (by rw [List.all_eq_true]; intro r hr; obtain ⟨x, _, rfl⟩ := List.mem_map.1 hr; rfl) (by (try simp only [List.length_map, List.length_nil, List.length_append, List.length_cons]); omega) (by (try simp only [List.length_map, List.length_nil, List.length_append, List.length_cons]); omega) (by omega) rfl rfl (fun v_30 w_30 hc_30 ho_30 ag_30 ob_30 => ?_)
        have o30 := ho_30 (.inr (Own.lit0 hb_27 (by omega)))
        have d_o30_b_2 := obNe ob_30 (fun k hk e => n_2__27.symm ((obLit hk).trans e)) hb_2.lt
        have d_o30_b_5 := obNe ob_30 (fun k hk e => n_5__27.symm ((obLit hk).trans e)) hb_5.lt
        have S := S.agrN ag_30 (fun k e => Nat.le_trans (by omega) e.2)
        have hb_2 := hb_2.step ag_30 (fun e => n_2__27.symm (obLit e.1))
        have S5 := S5.agrN ag_30 (fun k e => Nat.le_trans (by omega) e.2)
        have hb_5 := hb_5.step ag_30 (fun e => n_5__27.symm (obLit e.1))
        have szD := Nat.le_trans szD ag_30.size
        obtain ⟨a_30, c_30, rfl, k_30⟩ := o30.form
        refine RD.back (ag_30.mono fun k _ e => by have := e.2; omega) ?_
        refine RD.all [4, 9] (by kernel_rfl) rfl (RDs.cons rfl ?_ (RDs.cons rfl ?_ (RDs.nil)))
        ·
          refine RL.buildSlice0 sl23 rfl rfl (fun b_31 w_31 e_31 z_31 hb_31 s_31 => ?_)
          have fr_b_31 : w9.heap.size ≤ b_31 := by rw [e_31]; exact szD
          have ge_31 := S.le e_31
          have n_2__31 := hb_2.ne e_31
          have n_5__31 := hb_5.ne e_31
          have d_o30_b_31 := o30.neNew e_31
          have S := S.trans s_31
          have hb_2 := hb_2.sub s_31
          have geS5_31 := S5.le e_31
          have S5 := S5.trans s_31
          have hb_5 := hb_5.sub s_31
          have szD := Nat.le_trans szD s_31.size
          have o30 := o30.sub s_31
          refine RD.back s_31.agr ?_
          refine RD.all [7, 9] (by kernel_rfl) rfl (RDs.cons rfl ?_ (RDs.cons rfl ?_ (RDs.nil)))
          ·
            have sz_34 := S.size
            have ltb_2_34 := hb_2.lt
            have szS5_34 := S5.size
            have ltb_5_34 := hb_5.lt
            have ltb_31_34 := hb_31.lt
            refine RL.append2 (base := E) (rows := []) (news := (fewA A).free.map fun x => [i6 x]) sl23 ze3 rfl rfl rfl rfl (.inl (Own.lit0 hb_31 (by omega))) (hAf.sub S) (by simp only [List.length_map]) (by intro r hr; obtain ⟨x, _, rfl⟩ := List.mem_map.1 hr; rfl) (by rw [List.all_eq_true]; intro r hr; obtain ⟨x, _, rfl⟩ := List.mem_map.1 hr; rfl) (by (try simp only [List.length_map, List.length_nil, List.length_append, List.length_cons]); omega) (by (try simp only [List.length_map, List.length_nil, List.length_append, List.length_cons]); omega) (by omega) rfl rfl (fun v_34 w_34 hc_34 ho_34 ag_34 ob_34 => ?_)
            have o34 := ho_34 (.inr (Own.lit0 hb_31 (by omega)))
            have d_o34_b_2 := obNe ob_34 (fun k hk e => n_2__31.symm ((obLit hk).trans e)) hb_2.lt
            have d_o34_b_5 := obNe ob_34 (fun k hk e => n_5__31.symm ((obLit hk).trans e)) hb_5.lt
            have dd_o34_o30 := obDD ob_34 (fun k hk h2 => d_o30_b_31 k h2 (obLit hk).symm) (fun k hk => (o30.ge k hk).2)
            have S := S.agrN ag_34 (fun k e => Nat.le_trans (by omega) e.2)
            have hb_2 := hb_2.step ag_34 (fun e => n_2__31.symm (obLit e.1))
            have S5 := S5.agrN ag_34 (fun k e => Nat.le_trans (by omega) e.2)
            have hb_5 := hb_5.step ag_34 (fun e => n_5__31.symm (obLit e.1))
            have szD := Nat.le_trans szD ag_34.size
            have o30 := o30.step ag_34 (fun k hk e => (fun k hk h2 => d_o30_b_31 k h2 (obLit hk).symm) k e.1 hk)
            obtain ⟨a_34, c_34, rfl, k_34⟩ := o34.form
            refine RD.back (ag_34.mono fun k _ e => by have := e.2; omega) ?_
            refine RD.take 8 rfl (by kernel_rfl) (by kernel_rfl) (by kernel_rfl) (fun w' s' => .buildS ze25 pl25 rfl rfl) rfl rfl ?_
            refine RD.all [9] (by kernel_rfl) rfl (RDs.cons rfl ?_ (RDs.nil))
            refine RL.alloc ze25 rfl rfl (fun b_8 w_8 e_8 z_8 hb_8 s_8 => ?_)
            have fr_b_8 : w9.heap.size ≤ b_8 := by rw [e_8]; exact szD
            have ge_8 := S.le e_8
            have n_2__8 := hb_2.ne e_8
            have n_5__8 := hb_5.ne e_8
            have d_o30_b_8 := o30.neNew e_8
            have d_o34_b_8 := o34.neNew e_8
            have S := S.trans s_8
            have hb_2 := hb_2.sub s_8
            have geS5_8 := S5.le e_8
            have S5 := S5.trans s_8
            have hb_5 := hb_5.sub s_8
            have szD := Nat.le_trans szD s_8.size
            have o30 := o30.sub s_8
            have o34 := o34.sub s_8
            refine RD.back s_8.agr ?_
            refine RD.all [10] (by kernel_rfl) rfl (RDs.cons rfl ?_ (RDs.nil))
            refine RL.store sh25 rfl rfl rfl hb_8 (by exact Nat.le_of_ble_eq_true rfl) (by rfl) rfl (fun w14 z14 hb_8 a14 => ?_)
            have S := S.upd a14 ge_8
            have hb_2 := hb_2.upd a14 n_2__8
            have S5 := S5.upd a14 geS5_8
            have hb_5 := hb_5.upd a14 n_5__8
            have szD := Nat.le_trans szD a14.size
            have o30 := o30.updD a14 d_o30_b_8
            have o34 := o34.updD a14 d_o34_b_8
            refine RD.backW rfl (a14.mono fun k _ e => e ▸ (.inr fr_b_8)) ?_
            exact RD.done (by kernel_rfl) (fun a ka => ⟨(b_8, (a_30, c_30), (a_34, c_34)), ⟨n_2__8, n_5__8, by omega, hb_2, hb_5, hb_8, o30, o34, d_o30_b_8, d_o34_b_8, dd_o34_o30, S5, S⟩, ka.keep (keep_of (by repeat (first | exact trivial | refine And.intro rfl ?_)))⟩)
          ·
            refine RL.alloc ze25 rfl rfl (fun b_8 w_8 e_8 z_8 hb_8 s_8 => ?_)
            have fr_b_8 : w9.heap.size ≤ b_8 := by rw [e_8]; exact szD
            have ge_8 := S.le e_8
            have n_2__8 := hb_2.ne e_8
            have n_5__8 := hb_5.ne e_8
            have n_31__8 := hb_31.ne e_8
            have d_o30_b_8 := o30.neNew e_8
            have S := S.trans s_8
            have hb_2 := hb_2.sub s_8
            have geS5_8 := S5.le e_8
            have S5 := S5.trans s_8
            have hb_5 := hb_5.sub s_8
            have szD := Nat.le_trans szD s_8.size
            have o30 := o30.sub s_8
            have hb_31 := hb_31.sub s_8
            refine RD.back s_8.agr ?_
            refine RD.all [7] (by kernel_rfl) rfl (RDs.cons rfl ?_ (RDs.nil))
            have sz_34 := S.size
            have ltb_2_34 := hb_2.lt
            have szS5_34 := S5.size
            have ltb_5_34 := hb_5.lt
            have ltb_31_34 := hb_31.lt
            have ltb_8_34 := hb_8.lt
            refine RL.append2 (base := E) (rows := []) (news := (fewA A).free.map fun x => [i6 x]) sl23 ze3 rfl rfl rfl rfl (.inl (Own.lit0 hb_31 (by omega))) (hAf.sub S) (by simp only [List.length_map]) (by intro r hr; obtain ⟨x, _, rfl⟩ := List.mem_map.1 hr; rfl) (by rw [List.all_eq_true]; intro r hr; obtain ⟨x, _, rfl⟩ := List.mem_map.1 hr; rfl) (by (try simp only [List.length_map, List.length_nil, List.length_append, List.length_cons]); omega) (by (try simp only [List.length_map, List.length_nil, List.length_append, List.length_cons]); omega) (by omega) rfl rfl (fun v_34 w_34 hc_34 ho_34 ag_34 ob_34 => ?_)
            have o34 := ho_34 (.inr (Own.lit0 hb_31 (by omega)))
            have d_o34_b_2 := obNe ob_34 (fun k hk e => n_2__31.symm ((obLit hk).trans e)) hb_2.lt
            have d_o34_b_5 := obNe ob_34 (fun k hk e => n_5__31.symm ((obLit hk).trans e)) hb_5.lt
            have dd_o34_o30 := obDD ob_34 (fun k hk h2 => d_o30_b_31 k h2 (obLit hk).symm) (fun k hk => (o30.ge k hk).2)
            have d_o34_b_8 := obNe ob_34 (fun k hk e => n_31__8 ((obLit hk).trans e)) hb_8.lt
            have S := S.agrN ag_34 (fun k e => Nat.le_trans (by omega) e.2)
            have hb_2 := hb_2.step ag_34 (fun e => n_2__31.symm (obLit e.1))
            have S5 := S5.agrN ag_34 (fun k e => Nat.le_trans (by omega) e.2)
            have hb_5 := hb_5.step ag_34 (fun e => n_5__31.symm (obLit e.1))
            have szD := Nat.le_trans szD ag_34.size
            have o30 := o30.step ag_34 (fun k hk e => (fun k hk h2 => d_o30_b_31 k h2 (obLit hk).symm) k e.1 hk)
            have hb_8 := hb_8.step ag_34 (fun e => n_31__8 (obLit e.1))
            obtain ⟨a_34, c_34, rfl, k_34⟩ := o34.form
            refine RD.back (ag_34.mono fun k _ e => by have := e.2; omega) ?_
            refine RD.take 8 rfl (by kernel_rfl) (by kernel_rfl) (by kernel_rfl) (fun w' s' => .buildS ze25 pl25 rfl rfl) rfl rfl ?_
            refine RD.all [10] (by kernel_rfl) rfl (RDs.cons rfl ?_ (RDs.nil))
            refine RL.store sh25 rfl rfl rfl hb_8 (by exact Nat.le_of_ble_eq_true rfl) (by rfl) rfl (fun w15 z15 hb_8 a15 => ?_)
            have S := S.upd a15 ge_8
            have hb_2 := hb_2.upd a15 n_2__8
            have S5 := S5.upd a15 geS5_8
            have hb_5 := hb_5.upd a15 n_5__8
            have szD := Nat.le_trans szD a15.size
            have o30 := o30.updD a15 d_o30_b_8
            have o34 := o34.updD a15 d_o34_b_8
            refine RD.backW rfl (a15.mono fun k _ e => e ▸ (.inr fr_b_8)) ?_
            exact RD.done (by kernel_rfl) (fun a ka => ⟨(b_8, (a_30, c_30), (a_34, c_34)), ⟨n_2__8, n_5__8, by omega, hb_2, hb_5, hb_8, o30, o34, d_o30_b_8, d_o34_b_8, dd_o34_o30, S5, S⟩, ka.keep (keep_of (by repeat (first | exact trivial | refine And.intro rfl ?_)))⟩)
        ·
          refine RL.alloc ze25 rfl rfl (fun b_8 w_8 e_8 z_8 hb_8 s_8 => ?_)
          have fr_b_8 : w9.heap.size ≤ b_8 := by rw [e_8]; exact szD
          have ge_8 := S.le e_8
          have n_2__8 := hb_2.ne e_8
          have n_5__8 := hb_5.ne e_8
          have d_o30_b_8 := o30.neNew e_8
          have S := S.trans s_8
          have hb_2 := hb_2.sub s_8
          have geS5_8 := S5.le e_8
          have S5 := S5.trans s_8
          have hb_5 := hb_5.sub s_8
          have szD := Nat.le_trans szD s_8.size
          have o30 := o30.sub s_8
          refine RD.back s_8.agr ?_
          refine RD.all [4] (by kernel_rfl) rfl (RDs.cons rfl ?_ (RDs.nil))
          refine RL.buildSlice0 sl23 rfl rfl (fun b_31 w_31 e_31 z_31 hb_31 s_31 => ?_)
          have fr_b_31 : w9.heap.size ≤ b_31 := by rw [e_31]; exact szD
          have ge_31 := S.le e_31
          have n_2__31 := hb_2.ne e_31
          have n_5__31 := hb_5.ne e_31
          have n_8__31 := hb_8.ne e_31
          have d_o30_b_31 := o30.neNew e_31
          have S := S.trans s_31
          have hb_2 := hb_2.sub s_31
          have geS5_31 := S5.le e_31
          have S5 := S5.trans s_31
          have hb_5 := hb_5.sub s_31
          have szD := Nat.le_trans szD s_31.size
          have o30 := o30.sub s_31
          have hb_8 := hb_8.sub s_31
          refine RD.back s_31.agr ?_
          refine RD.all [7] (by kernel_rfl) rfl (RDs.cons rfl ?_ (RDs.nil))
          have sz_34 := S.size
          have ltb_2_34 := hb_2.lt
          have szS5_34 := S5.size
          have ltb_5_34 := hb_5.lt
          have ltb_8_34 := hb_8.lt
          have ltb_31_34 := hb_31.lt
          refine RL.append2 (base := E) (rows := []) (news := (fewA A).free.map fun x => [i6 x]) sl23 ze3 rfl rfl rfl rfl (.inl (Own.lit0 hb_31 (by omega))) (hAf.sub S) (by simp only [List.length_map]) (by intro r hr; obtain ⟨x, _, rfl⟩ := List.mem_map.1 hr; rfl) (by rw [List.all_eq_true]; intro r hr; obtain ⟨x, _, rfl⟩ := List.mem_map.1 hr; rfl) (by (try simp only [List.length_map, List.length_nil, List.length_append, List.length_cons]); omega) (by (try simp only [List.length_map, List.length_nil, List.length_append, List.length_cons]); omega) (by omega) rfl rfl (fun v_34 w_34 hc_34 ho_34 ag_34 ob_34 => ?_)
          have o34 := ho_34 (.inr (Own.lit0 hb_31 (by omega)))
          have d_o34_b_2 := obNe ob_34 (fun k hk e => n_2__31.symm ((obLit hk).trans e)) hb_2.lt
          have d_o34_b_5 := obNe ob_34 (fun k hk e => n_5__31.symm ((obLit hk).trans e)) hb_5.lt
          have dd_o34_o30 := obDD ob_34 (fun k hk h2 => d_o30_b_31 k h2 (obLit hk).symm) (fun k hk => (o30.ge k hk).2)
          have d_o34_b_8 := obNe ob_34 (fun k hk e => n_8__31.symm ((obLit hk).trans e)) hb_8.lt
          have S := S.agrN ag_34 (fun k e => Nat.le_trans (by omega) e.2)
          have hb_2 := hb_2.step ag_34 (fun e => n_2__31.symm (obLit e.1))
          have S5 := S5.agrN ag_34 (fun k e => Nat.le_trans (by omega) e.2)
          have hb_5 := hb_5.step ag_34 (fun e => n_5__31.symm (obLit e.1))
          have szD := Nat.le_trans szD ag_34.size
          have o30 := o30.step ag_34 (fun k hk e => (fun k hk h2 => d_o30_b_31 k h2 (obLit hk).symm) k e.1 hk)
          have hb_8 := hb_8.step ag_34 (fun e => n_8__31.symm (obLit e.1))
          obtain ⟨a_34, c_34, rfl, k_34⟩ := o34.form
          refine RD.back (ag_34.mono fun k _ e => by have := e.2; omega) ?_
          refine RD.take 8 rfl (by kernel_rfl) (by kernel_rfl) (by kernel_rfl) (fun w' s' => .buildS ze25 pl25 rfl rfl) rfl rfl ?_
          refine RD.all [10] (by kernel_rfl) rfl (RDs.cons rfl ?_ (RDs.nil))
          refine RL.store sh25 rfl rfl rfl hb_8 (by exact Nat.le_of_ble_eq_true rfl) (by rfl) rfl (fun w16 z16 hb_8 a16 => ?_)
          have S := S.upd a16 ge_8
          have hb_2 := hb_2.upd a16 n_2__8
          have S5 := S5.upd a16 geS5_8
          have hb_5 := hb_5.upd a16 n_5__8
          have szD := Nat.le_trans szD a16.size
          have o30 := o30.updD a16 d_o30_b_8
          have o34 := o34.updD a16 d_o34_b_8
          refine RD.backW rfl (a16.mono fun k _ e => e ▸ (.inr fr_b_8)) ?_
          exact RD.done (by kernel_rfl) (fun a ka => ⟨(b_8, (a_30, c_30), (a_34, c_34)), ⟨n_2__8, n_5__8, by omega, hb_2, hb_5, hb_8, o30, o34, d_o30_b_8, d_o34_b_8, dd_o34_o30, S5, S⟩, ka.keep (keep_of (by repeat (first | exact trivial | refine And.intro rfl ?_)))⟩)
      ·
        refine RL.buildSlice0 sl23 rfl rfl (fun b_31 w_31 e_31 z_31 hb_31 s_31 => ?_)
        have fr_b_31 : w9.heap.size ≤ b_31 := by rw [e_31]; exact szD
        have ge_31 := S.le e_31
        have n_2__31 := hb_2.ne e_31
        have n_5__31 := hb_5.ne e_31
        have n_27__31 := hb_27.ne e_31
        have S := S.trans s_31
        have hb_2 := hb_2.sub s_31
        have geS5_31 := S5.le e_31
        have S5 := S5.trans s_31
        have hb_5 := hb_5.sub s_31
        have szD := Nat.le_trans szD s_31.size
        have hb_27 := hb_27.sub s_31
        refine RD.back s_31.agr ?_
        refine RD.all [3, 9] (by kernel_rfl) rfl (RDs.cons rfl ?_ (RDs.cons rfl ?_ (RDs.nil)))
        ·
          have sz_30 := S.size
          have ltb_2_30 := hb_2.lt
          have szS5_30 := S5.size
          have ltb_5_30 := hb_5.lt
          have ltb_27_30 := hb_27.lt
          have ltb_31_30 := hb_31.lt
          refine RL.append2 (base := E) (rows := []) (news := (fewA A).nodes.map Node.cells) sl22 ze35 rfl rfl rfl rfl (.inl (Own.lit0 hb_27 (by omega))) (hAn.sub S) (by simp only [List.length_map]) (by intro r hr; obtain ⟨x, _, rfl⟩ := List.mem_map.1 hr; rfl) (by rw [List.all_eq_true]; intro r hr; obtain ⟨x, _, rfl⟩ := List.mem_map.1 hr; rfl) (by (try simp only [List.length_map, List.length_nil, List.length_append, List.length_cons]); omega) (by (try simp only [List.length_map, List.length_nil, List.length_append, List.length_cons]); omega) (by omega) rfl rfl (fun v_30 w_30 hc_30 ho_30 ag_30 ob_30 => ?_)
          have o30 := ho_30 (.inr (Own.lit0 hb_27 (by omega)))
          have d_o30_b_2 := obNe ob_30 (fun k hk e => n_2__27.symm ((obLit hk).trans e)) hb_2.lt
          have d_o30_b_5 := obNe ob_30 (fun k hk e => n_5__27.symm ((obLit hk).trans e)) hb_5.lt
          have d_o30_b_31 := obNe ob_30 (fun k hk e => n_27__31 ((obLit hk).trans e)) hb_31.lt
          have S := S.agrN ag_30 (fun k e => Nat.le_trans (by omega) e.2)
          have hb_2 := hb_2.step ag_30 (fun e => n_2__27.symm (obLit e.1))
          have S5 := S5.agrN ag_30 (fun k e => Nat.le_trans (by omega) e.2)
          have hb_5 := hb_5.step ag_30 (fun e => n_5__27.symm (obLit e.1))
          have szD := Nat.le_trans szD ag_30.size
          have hb_31 := hb_31.step ag_30 (fun e => n_27__31 (obLit e.1))
          obtain ⟨a_30, c_30, rfl, k_30⟩ := o30.form
          refine RD.back (ag_30.mono fun k _ e => by have := e.2; omega) ?_
          refine RD.all [7, 9] (by kernel_rfl) rfl (RDs.cons rfl ?_ (RDs.cons rfl ?_ (RDs.nil)))
          ·
            have sz_34 := S.size
            have ltb_2_34 := hb_2.lt
            have szS5_34 := S5.size
            have ltb_5_34 := hb_5.lt
            have ltb_31_34 := hb_31.lt
            refine RL.append2 (base := E) (rows := []) (news := (fewA A).free.map fun x => [i6 x]) sl23 ze3 rfl rfl rfl rfl (.inl (Own.lit0 hb_31 (by omega))) (hAf.sub S) (by simp only [List.length_map]) (by intro r hr; obtain ⟨x, _, rfl⟩ := List.mem_map.1 hr; rfl) (by rw [List.all_eq_true]; intro r hr; obtain ⟨x, _, rfl⟩ := List.mem_map.1 hr; rfl) (by (try simp only [List.length_map, List.length_nil, List.length_append, List.length_cons]); omega) (by (try simp only [List.length_map, List.length_nil, List.length_append, List.length_cons]); omega) (by omega) rfl rfl (fun v_34 w_34 hc_34 ho_34 ag_34 ob_34 => ?_)
            have o34 := ho_34 (.inr (Own.lit0 hb_31 (by omega)))
            have d_o34_b_2 := obNe ob_34 (fun k hk e => n_2__31.symm ((obLit hk).trans e)) hb_2.lt
            have d_o34_b_5 := obNe ob_34 (fun k hk e => n_5__31.symm ((obLit hk).trans e)) hb_5.lt
            have dd_o34_o30 := obDD ob_34 (fun k hk h2 => d_o30_b_31 k h2 (obLit hk).symm) (fun k hk => (o30.ge k hk).2)
            have S := S.agrN ag_34 (fun k e => Nat.le_trans (by omega) e.2)
            have hb_2 := hb_2.step ag_34 (fun e => n_2__31.symm (obLit e.1))
            have S5 := S5.agrN ag_34 (fun k e => Nat.le_trans (by omega) e.2)
            have hb_5 := hb_5.step ag_34 (fun e => n_5__31.symm (obLit e.1))
            have szD := Nat.le_trans szD ag_34.size
            have o30 := o30.step ag_34 (fun k hk e => (fun k hk h2 => d_o30_b_31 k h2 (obLit hk).symm) k e.1 hk)
            obtain ⟨a_34, c_34, rfl, k_34⟩ := o34.form
            refine RD.back (ag_34.mono fun k _ e => by have := e.2; omega) ?_
            refine RD.take 8 rfl (by kernel_rfl) (by kernel_rfl) (by kernel_rfl) (fun w' s' => .buildS ze25 pl25 rfl rfl) rfl rfl ?_
            refine RD.all [9] (by kernel_rfl) rfl (RDs.cons rfl ?_ (RDs.nil))
            refine RL.alloc ze25 rfl rfl (fun b_8 w_8 e_8 z_8 hb_8 s_8 => ?_)
            have fr_b_8 : w9.heap.size ≤ b_8 := by rw [e_8]; exact szD
            have ge_8 := S.le e_8
            have n_2__8 := hb_2.ne e_8
            have n_5__8 := hb_5.ne e_8
            have d_o30_b_8 := o30.neNew e_8
            have d_o34_b_8 := o34.neNew e_8
            have S := S.trans s_8
            have hb_2 := hb_2.sub s_8
            have geS5_8 := S5.le e_8
            have S5 := S5.trans s_8
            have hb_5 := hb_5.sub s_8
            have szD := Nat.le_trans szD s_8.size
            have o30 := o30.sub s_8
            have o34 := o34.sub s_8
            refine RD.back s_8.agr ?_
            refine RD.all [10] (by kernel_rfl) rfl (RDs.cons rfl ?_ (RDs.nil))
            refine RL.store sh25 rfl rfl rfl hb_8 (by exact Nat.le_of_ble_eq_true rfl) (by rfl) rfl (fun w17 z17 hb_8 a17 => ?_)
            have S := S.upd a17 ge_8
            have hb_2 := hb_2.upd a17 n_2__8
            have S5 := S5.upd a17 geS5_8
            have hb_5 := hb_5.upd a17 n_5__8
            have szD := Nat.le_trans szD a17.size
            have o30 := o30.updD a17 d_o30_b_8
            have o34 := o34.updD a17 d_o34_b_8
            refine RD.backW rfl (a17.mono fun k _ e => e ▸ (.inr fr_b_8)) ?_
            exact RD.done (by kernel_rfl) (fun a ka => ⟨(b_8, (a_30, c_30), (a_34, c_34)), ⟨n_2__8, n_5__8, by omega, hb_2, hb_5, hb_8, o30, o34, d_o30_b_8, d_o34_b_8, dd_o34_o30, S5, S⟩, ka.keep (keep_of (by repeat (first | exact trivial | refine And.intro rfl ?_)))⟩)
          ·
            refine RL.alloc ze25 rfl rfl (fun b_8 w_8 e_8 z_8 hb_8 s_8 => ?_)
            have fr_b_8 : w9.heap.size ≤ b_8 := by rw [e_8]; exact szD
            have ge_8 := S.le e_8
            have n_2__8 := hb_2.ne e_8
            have n_5__8 := hb_5.ne e_8
            have n_31__8 := hb_31.ne e_8
            have d_o30_b_8 := o30.neNew e_8
            have S := S.trans s_8
            have hb_2 := hb_2.sub s_8
            have geS5_8 := S5.le e_8
            have S5 := S5.trans s_8
            have hb_5 := hb_5.sub s_8
            have szD := Nat.le_trans szD s_8.size
            have hb_31 := hb_31.sub s_8
            have o30 := o30.sub s_8
            refine RD.back s_8.agr ?_
            refine RD.all [7] (by kernel_rfl) rfl (RDs.cons rfl ?_ (RDs.nil))
            have sz_34 := S.size
            have ltb_2_34 := hb_2.lt
            have szS5_34 := S5.size
            have ltb_5_34 := hb_5.lt
            have ltb_31_34 := hb_31.lt
            have ltb_8_34 := hb_8.lt
            refine RL.append2 (base := E) (rows := []) (news := (fewA A).free.map fun x => [i6 x]) sl23 ze3 rfl rfl rfl rfl (.inl (Own.lit0 hb_31 (by omega))) (hAf.sub S) (by simp only [List.length_map]) (by intro r hr; obtain ⟨x, _, rfl⟩ := List.mem_map.1 hr; rfl) (by rw [List.all_eq_true]; intro r hr; obtain ⟨x, _, rfl⟩ := List.mem_map.1 hr; rfl) (by (try simp only [List.length_map, List.length_nil, List.length_append, List.length_cons]); omega) (by (try simp only [List.length_map, List.length_nil, List.length_append, List.length_cons]); omega) (by omega) rfl rfl (fun v_34 w_34 hc_34 ho_34 ag_34 ob_34 => ?_)
            have o34 := ho_34 (.inr (Own.lit0 hb_31 (by omega)))
            have d_o34_b_2 := obNe ob_34 (fun k hk e => n_2__31.symm ((obLit hk).trans e)) hb_2.lt
            have d_o34_b_5 := obNe ob_34 (fun k hk e => n_5__31.symm ((obLit hk).trans e)) hb_5.lt
            have dd_o34_o30 := obDD ob_34 (fun k hk h2 => d_o30_b_31 k h2 (obLit hk).symm) (fun k hk => (o30.ge k hk).2)
            have d_o34_b_8 := obNe ob_34 (fun k hk e => n_31__8 ((obLit hk).trans e)) hb_8.lt
            have S := S.agrN ag_34 (fun k e => Nat.le_trans (by omega) e.2)
            have hb_2 := hb_2.step ag_34 (fun e => n_2__31.symm (obLit e.1))
            have S5 := S5.agrN ag_34 (fun k e => Nat.le_trans (by omega) e.2)
            have hb_5 := hb_5.step ag_34 (fun e => n_5__31.symm (obLit e.1))
            have szD := Nat.le_trans szD ag_34.size
            have o30 := o30.step ag_34 (fun k hk e => (fun k hk h2 => d_o30_b_31 k h2 (obLit hk).symm) k e.1 hk)
            have hb_8 := hb_8.step ag_34 (fun e => n_31__8 (obLit e.1))
            obtain ⟨a_34, c_34, rfl, k_34⟩ := o34.form
            refine RD.back (ag_34.mono fun k _ e => by have := e.2; omega) ?_
            refine RD.take 8 rfl (by kernel_rfl) (by kernel_rfl) (by kernel_rfl) (fun w' s' => .buildS ze25 pl25 rfl rfl) rfl rfl ?_
            refine RD.all [10] (by kernel_rfl) rfl (RDs.cons rfl ?_ (RDs.nil))
            refine RL.store sh25 rfl rfl rfl hb_8 (by exact Nat.le_of_ble_eq_true rfl) (by rfl) rfl (fun w18 z18 hb_8 a18 => ?_)
            have S := S.upd a18 ge_8
            have hb_2 := hb_2.upd a18 n_2__8
            have S5 := S5.upd a18 geS5_8
            have hb_5 := hb_5.upd a18 n_5__8
            have szD := Nat.le_trans szD a18.size
            have o30 := o30.updD a18 d_o30_b_8
            have o34 := o34.updD a18 d_o34_b_8
            refine RD.backW rfl (a18.mono fun k _ e => e ▸ (.inr fr_b_8)) ?_
            exact RD.done (by kernel_rfl) (fun a ka => ⟨(b_8, (a_30, c_30), (a_34, c_34)), ⟨n_2__8, n_5__8, by omega, hb_2, hb_5, hb_8, o30, o34, d_o30_b_8, d_o34_b_8, dd_o34_o30, S5, S⟩, ka.keep (keep_of (by repeat (first | exact trivial | refine And.intro rfl ?_)))⟩)
        ·
          refine RL.alloc ze25 rfl rfl (fun b_8 w_8 e_8 z_8 hb_8 s_8 => ?_)
          have fr_b_8 : w9.heap.size ≤ b_8 := by rw [e_8]; exact szD
          have ge_8 := S.le e_8
          have n_2__8 := hb_2.ne e_8
          have n_5__8 := hb_5.ne e_8
          have n_27__8 := hb_27.ne e_8
          have n_31__8 := hb_31.ne e_8
          have S := S.trans s_8
          have hb_2 := hb_2.sub s_8
          have geS5_8 := S5.le e_8
          have S5 := S5.trans s_8
          have hb_5 := hb_5.sub s_8
          have szD := Nat.le_trans szD s_8.size
          have hb_27 := hb_27.sub s_8
          have hb_31 := hb_31.sub s_8
          refine RD.back s_8.agr ?_
          refine RD.all [3] (by kernel_rfl) rfl (RDs.cons rfl ?_ (RDs.nil))
          have sz_30 := S.size
          have ltb_2_30 := hb_2.lt
          have szS5_30 := S5.size
          have ltb_5_30 := hb_5.lt
          have ltb_27_30 := hb_27.lt
          have ltb_31_30 := hb_31.lt
          have ltb_8_30 := hb_8.lt
          refine RL.append2 (base := E) (rows := []) (news := (fewA A).nodes.map Node.cells) sl22 ze35 rfl rfl rfl rfl (.inl (Own.lit0 hb_27 (by omega))) (hAn.sub S) (by simp only [List.length_map]) (by intro r hr; obtain ⟨x, _, rfl⟩ := List.mem_map.1 hr; rfl) (by rw [List.all_eq_true]; intro r hr; obtain ⟨x, _, rfl⟩ := List.mem_map.1 hr; rfl) (by (try simp only [List.length_map, List.length_nil, List.length_append, List.length_cons]); omega) (by (try simp only [List.length_map, List.length_nil, List.length_append, List.length_cons]); omega) (by omega) rfl rfl (fun v_30 w_30 hc_30 ho_30 ag_30 ob_30 => ?_)
          have o30 := ho_30 (.inr (Own.lit0 hb_27 (by omega)))
          have d_o30_b_2 := obNe ob_30 (fun k hk e => n_2__27.symm ((obLit hk).trans e)) hb_2.lt
          have d_o30_b_5 := obNe ob_30 (fun k hk e => n_5__27.symm ((obLit hk).trans e)) hb_5.lt
          have d_o30_b_31 := obNe ob_30 (fun k hk e => n_27__31 ((obLit hk).trans e)) hb_31.lt
          have d_o30_b_8 := obNe ob_30 (fun k hk e => n_27__8 ((obLit hk).trans e)) hb_8.lt
          have S := S.agrN ag_30 (fun k e => Nat.le_trans (by omega) e.2)
          have hb_2 := hb_2.step ag_30 (fun e => n_2__27.symm (obLit e.1))
          have S5 := S5.agrN ag_30 (fun k e => Nat.le_trans (by omega) e.2)
          have hb_5 := hb_5.step ag_30 (fun e => n_5__27.symm (obLit e.1))
          have szD := Nat.le_trans szD ag_30.size
          have hb_31 := hb_31.step ag_30 (fun e => n_27__31 (obLit e.1))
          have hb_8 := hb_8.step ag_30 (fun e => n_27__8 (obLit e.1))
          obtain ⟨a_30, c_30, rfl, k_30⟩ := o30.form
          refine RD.back (ag_30.mono fun k _ e => by have := e.2; omega) ?_
          refine RD.all [7] (by kernel_rfl) rfl (RDs.cons rfl ?_ (RDs.nil))
          have sz_34 := S.size
          have ltb_2_34 := hb_2.lt
          have szS5_34 := S5.size
          have ltb_5_34 := hb_5.lt
          have ltb_31_34 := hb_31.lt
          have ltb_8_34 := hb_8.lt
          refine RL.append2 (base := E) (rows := []) (news := (fewA A).free.map fun x => [i6 x]) sl23 ze3 rfl rfl rfl rfl (.inl (Own.lit0 hb_31 (by omega))) (hAf.sub S) (by simp only [List.length_map]) (by intro r hr; obtain ⟨x, _, rfl⟩ := List.mem_map.1 hr; rfl) (by rw [List.all_eq_true]; intro r hr; obtain ⟨x, _, rfl⟩ := List.mem_map.1 hr; rfl) (by (try simp only [List.length_map, List.length_nil, List.length_append, List.length_cons]); omega) (by (try simp only [List.length_map, List.length_nil, List.length_append, List.length_cons]); omega) (by omega) rfl rfl (fun v_34 w_34 hc_34 ho_34 ag_34 ob_34 => ?_)
          have o34 := ho_34 (.inr (Own.lit0 hb_31 (by omega)))
          have d_o34_b_2 := obNe ob_34 (fun k hk e => n_2__31.symm ((obLit hk).trans e)) hb_2.lt
          have d_o34_b_5 := obNe ob_34 (fun k hk e => n_5__31.symm ((obLit hk).trans e)) hb_5.lt
          have d_o34_b_8 := obNe ob_34 (fun k hk e => n_31__8 ((obLit hk).trans e)) hb_8.lt
          have dd_o34_o30 := obDD ob_34 (fun k hk h2 => d_o30_b_31 k h2 (obLit hk).symm) (fun k hk => (o30.ge k hk).2)
          have S := S.agrN ag_34 (fun k e => Nat.le_trans (by omega) e.2)
          have hb_2 := hb_2.step ag_34 (fun e => n_2__31.symm (obLit e.1))
          have S5 := S5.agrN ag_34 (fun k e => Nat.le_trans (by omega) e.2)
          have hb_5 := hb_5.step ag_34 (fun e => n_5__31.symm (obLit e.1))
          have szD := Nat.le_trans szD ag_34.size
          have hb_8 := hb_8.step ag_34 (fun e => n_31__8 (obLit e.1))
          have o30 := o30.step ag_34 (fun k hk e => (fun k hk h2 => d_o30_b_31 k h2 (obLit hk).symm) k e.1 hk)
          obtain ⟨a_34, c_34, rfl, k_34⟩ := o34.form
          refine RD.back (ag_34.mono fun k _ e => by have := e.2; omega) ?_
          refine RD.take 8 rfl (by kernel_rfl) (by kernel_rfl) (by kernel_rfl) (fun w' s' => .buildS ze25 pl25 rfl rfl) rfl rfl ?_
          refine RD.all [10] (by kernel_rfl) rfl (RDs.cons rfl ?_ (RDs.nil))
          refine RL.store sh25 rfl rfl rfl hb_8 (by exact Nat.le_of_ble_eq_true rfl) (by rfl) rfl (fun w19 z19 hb_8 a19 => ?_)
          have S := S.upd a19 ge_8
          have hb_2 := hb_2.upd a19 n_2__8
          have S5 := S5.upd a19 geS5_8
          have hb_5 := hb_5.upd a19 n_5__8
          have szD := Nat.le_trans szD a19.size
          have o30 := o30.updD a19 d_o30_b_8
          have o34 := o34.updD a19 d_o34_b_8
          refine RD.backW rfl (a19.mono fun k _ e => e ▸ (.inr fr_b_8)) ?_
          exact RD.done (by kernel_rfl) (fun a ka => ⟨(b_8, (a_30, c_30), (a_34, c_34)), ⟨n_2__8, n_5__8, by omega, hb_2, hb_5, hb_8, o30, o34, d_o30_b_8, d_o34_b_8, dd_o34_o30, S5, S⟩, ka.keep (keep_of (by repeat (first | exact trivial | refine And.intro rfl ?_)))⟩)
      ·
        refine RL.alloc ze25 rfl rfl (fun b_8 w_8 e_8 z_8 hb_8 s_8 => ?_)
        have fr_b_8 : w9.heap.size ≤ b_8 := by rw [e_8]; exact szD
        have ge_8 := S.le e_8
        have n_2__8 := hb_2.ne e_8
        have n_5__8 := hb_5.ne e_8
        have n_27__8 := hb_27.ne e_8
        have S := S.trans s_8
        have hb_2 := hb_2.sub s_8
        have geS5_8 := S5.le e_8
        have S5 := S5.trans s_8
        have hb_5 := hb_5.sub s_8
        have szD := Nat.le_trans szD s_8.size
        have hb_27 := hb_27.sub s_8
        refine RD.back s_8.agr ?_
        refine RD.all [3, 4] (by kernel_rfl) rfl (RDs.cons rfl ?_ (RDs.cons rfl ?_ (RDs.nil)))
        ·
          have sz_30 := S.size
          have ltb_2_30 := hb_2.lt
          have szS5_30 := S5.size
          have ltb_5_30 := hb_5.lt
          have ltb_27_30 := hb_27.lt
          have ltb_8_30 := hb_8.lt
          refine RL.append2 (base := E) (rows := []) (news := (fewA A).nodes.map Node.cells) sl22 ze35 rfl rfl rfl rfl (.inl (Own.lit0 hb_27 (by omega))) (hAn.sub S) (by simp only [List.length_map]) (by intro r hr; obtain ⟨x, _, rfl⟩ := List.mem_map.1 hr; rfl) (by rw [List.all_eq_true]; intro r hr; obtain ⟨x, _, rfl⟩ := List.mem_map.1 hr; rfl) (by (try simp only [List.length_map, List.length_nil, List.length_append, List.length_cons]); omega) (by (try simp only [List.length_map, List.length_nil, List.length_append, List.length_cons]); omega) (by omega) rfl rfl (fun v_30 w_30 hc_30 ho_30 ag_30 ob_30 => ?_)
          have o30 := ho_30 (.inr (Own.lit0 hb_27 (by omega)))
          have d_o30_b_2 := obNe ob_30 (fun k hk e => n_2__27.symm ((obLit hk).trans e)) hb_2.lt
          have d_o30_b_5 := obNe ob_30 (fun k hk e => n_5__27.symm ((obLit hk).trans e)) hb_5.lt
          have d_o30_b_8 := obNe ob_30 (fun k hk e => n_27__8 ((obLit hk).trans e)) hb_8.lt
          have S := S.agrN ag_30 (fun k e => Nat.le_trans (by omega) e.2)
          have hb_2 := hb_2.step ag_30 (fun e => n_2__27.symm (obLit e.1))
          have S5 := S5.agrN ag_30 (fun k e => Nat.le_trans (by omega) e.2)
          have hb_5 := hb_5.step ag_30 (fun e => n_5__27.symm (obLit e.1))
          have szD := Nat.le_trans szD ag_30.size
          have hb_8 := hb_8.step ag_30 (fun e => n_27__8 (obLit e.1))
          obtain ⟨a_30, c_30, rfl, k_30⟩ := o30.form
          refine RD.back (ag_30.mono fun k _ e => by have := e.2; omega) ?_
          refine RD.all [4] (by kernel_rfl) rfl (RDs.cons rfl ?_ (RDs.nil))
          refine RL.buildSlice0 sl23 rfl rfl (fun b_31 w_31 e_31 z_31 hb_31 s_31 => ?_)
          have fr_b_31 : w9.heap.size ≤ b_31 := by rw [e_31]; exact szD
          have ge_31 := S.le e_31
          have n_2__31 := hb_2.ne e_31
          have n_5__31 := hb_5.ne e_31
          have n_8__31 := hb_8.ne e_31
          have d_o30_b_31 := o30.neNew e_31
          have S := S.trans s_31
          have hb_2 := hb_2.sub s_31
          have geS5_31 := S5.le e_31
          have S5 := S5.trans s_31
          have hb_5 := hb_5.sub s_31
          have szD := Nat.le_trans szD s_31.size
          have hb_8 := hb_8.sub s_31
          have o30 := o30.sub s_31
          refine RD.back s_31.agr ?_
          refine RD.all [7] (by kernel_rfl) rfl (RDs.cons rfl ?_ (RDs.nil))
          have sz_34 := S.size
          have ltb_2_34 := hb_2.lt
          have szS5_34 := S5.size
          have ltb_5_34 := hb_5.lt
          have ltb_8_34 := hb_8.lt
          have ltb_31_34 := hb_31.lt
          refine RL.append2 (base := E) (rows := []) (news := (fewA A).free.map fun x => [i6 x]) sl23 ze3 rfl rfl rfl rfl (.inl (Own.lit0 hb_31 (by omega))) (hAf.sub S) (by simp only [List.length_map]) (by intro r hr; obtain ⟨x, _, rfl⟩ := List.mem_map.1 hr; rfl) (by rw [List.all_eq_true]; intro r hr; obtain ⟨x, _, rfl⟩ := List.mem_map.1 hr; rfl) (by (try simp only [List.length_map, List.length_nil, List.length_append, List.length_cons]); omega) (by (try simp only [List.length_map, List.length_nil, List.length_append, List.length_cons]); omega) (by omega) rfl rfl (fun v_34 w_34 hc_34 ho_34 ag_34 ob_34 => ?_)
          have o34 := ho_34 (.inr (Own.lit0 hb_31 (by omega)))
          have d_o34_b_2 := obNe ob_34 (fun k hk e => n_2__31.symm ((obLit hk).trans e)) hb_2.lt
          have d_o34_b_5 := obNe ob_34 (fun k hk e => n_5__31.symm ((obLit hk).trans e)) hb_5.lt
          have d_o34_b_8 := obNe ob_34 (fun k hk e => n_8__31.symm ((obLit hk).trans e)) hb_8.lt
          have dd_o34_o30 := obDD ob_34 (fun k hk h2 => d_o30_b_31 k h2 (obLit hk).symm) (fun k hk => (o30.ge k hk).2)
          have S := S.agrN ag_34 (fun k e => Nat.le_trans (by omega) e.2)
          have hb_2 := hb_2.step ag_34 (fun e => n_2__31.symm (obLit e.1))
          have S5 := S5.agrN ag_34 (fun k e => Nat.le_trans (by omega) e.2)
          have hb_5 := hb_5.step ag_34 (fun e => n_5__31.symm (obLit e.1))
          have szD := Nat.le_trans szD ag_34.size
          have hb_8 := hb_8.step ag_34 (fun e => n_8__31.symm (obLit e.1))
          have o30 := o30.step ag_34 (fun k hk e => (fun k hk h2 => d_o30_b_31 k h2 (obLit hk).symm) k e.1 hk)
          obtain ⟨a_34, c_34, rfl, k_34⟩ := o34.form
          refine RD.back (ag_34.mono fun k _ e => by have := e.2; omega) ?_
          refine RD.take 8 rfl (by kernel_rfl) (by kernel_rfl) (by kernel_rfl) (fun w' s' => .buildS ze25 pl25 rfl rfl) rfl rfl ?_
          refine RD.all [10] (by kernel_rfl) rfl (RDs.cons rfl ?_ (RDs.nil))
          refine RL.store sh25 rfl rfl rfl hb_8 (by exact Nat.le_of_ble_eq_true rfl) (by rfl) rfl (fun w20 z20 hb_8 a20 => ?_)
          have S := S.upd a20 ge_8
          have hb_2 := hb_2.upd a20 n_2__8
          have S5 := S5.upd a20 geS5_8
          have hb_5 := hb_5.upd a20 n_5__8
          have szD := Nat.le_trans szD a20.size
          have o30 := o30.updD a20 d_o30_b_8
          have o34 := o34.updD a20 d_o34_b_8
          refine RD.backW rfl (a20.mono fun k _ e => e ▸ (.inr fr_b_8)) ?_
          exact RD.done (by kernel_rfl) (fun a ka => ⟨(b_8, (a_30, c_30), (a_34, c_34)), ⟨n_2__8, n_5__8, by omega, hb_2, hb_5, hb_8, o30, o34, d_o30_b_8, d_o34_b_8, dd_o34_o30, S5, S⟩, ka.keep (keep_of (by repeat (first | exact trivial | refine And.intro rfl ?_)))⟩)
        ·
          refine RL.buildSlice0 sl23 rfl rfl (fun b_31 w_31 e_31 z_31 hb_31 s_31 => ?_)
          have fr_b_31 : w9.heap.size ≤ b_31 := by rw [e_31]; exact szD
          have ge_31 := S.le e_31
          have n_2__31 := hb_2.ne e_31
          have n_5__31 := hb_5.ne e_31
          have n_27__31 := hb_27.ne e_31
          have n_8__31 := hb_8.ne e_31
          have S := S.trans s_31
          have hb_2 := hb_2.sub s_31
          have geS5_31 := S5.le e_31
          have S5 := S5.trans s_31
          have hb_5 := hb_5.sub s_31
          have szD := Nat.le_trans szD s_31.size
          have hb_27 := hb_27.sub s_31
          have hb_8 := hb_8.sub s_31
          refine RD.back s_31.agr ?_
          refine RD.all [3] (by kernel_rfl) rfl (RDs.cons rfl ?_ (RDs.nil))
          have sz_30 := S.size
          have ltb_2_30 := hb_2.lt
          have szS5_30 := S5.size
          have ltb_5_30 := hb_5.lt
          have ltb_27_30 := hb_27.lt
          have ltb_8_30 := hb_8.lt
          have ltb_31_30 := hb_31.lt
          refine RL.append2 (base := E) (rows := []) (news := (fewA A).nodes.map Node.cells) sl22 ze35 rfl rfl rfl rfl (.inl (Own.lit0 hb_27 (by omega))) (hAn.sub S) (by simp only [List.length_map]) (by intro r hr; obtain ⟨x, _, rfl⟩ := List.mem_map.1 hr; rfl) (by rw [List.all_eq_true]; intro r hr; obtain ⟨x, _, rfl⟩ := List.mem_map.1 hr; rfl) (by (try simp only [List.length_map, List.length_nil, List.length_append, List.length_cons]); omega) (by (try simp only [List.length_map, List.length_nil, List.length_append, List.length_cons]); omega) (by omega) rfl rfl (fun v_30 w_30 hc_30 ho_30 ag_30 ob_30 => ?_)
          have o30 := ho_30 (.inr (Own.lit0 hb_27 (by omega)))
          have d_o30_b_2 := obNe ob_30 (fun k hk e => n_2__27.symm ((obLit hk).trans e)) hb_2.lt
          have d_o30_b_5 := obNe ob_30 (fun k hk e => n_5__27.symm ((obLit hk).trans e)) hb_5.lt
          have d_o30_b_8 := obNe ob_30 (fun k hk e => n_27__8 ((obLit hk).trans e)) hb_8.lt
          have d_o30_b_31 := obNe ob_30 (fun k hk e => n_27__31 ((obLit hk).trans e)) hb_31.lt
          have S := S.agrN ag_30 (fun k e => Nat.le_trans (by omega) e.2)
          have hb_2 := hb_2.step ag_30 (fun e => n_2__27.symm (obLit e.1))
          have S5 := S5.agrN ag_30 (fun k e => Nat.le_trans (by omega) e.2)
          have hb_5 := hb_5.step ag_30 (fun e => n_5__27.symm (obLit e.1))
          have szD := Nat.le_trans szD ag_30.size
          have hb_8 := hb_8.step ag_30 (fun e => n_27__8 (obLit e.1))
          have hb_31 := hb_31.step ag_30 (fun e => n_27__31 (obLit e.1))
          obtain ⟨a_30, c_30, rfl, k_30⟩ := o30.form
          refine RD.back (ag_30.mono fun k _ e => by have := e.2; omega) ?_
          refine RD.all [7] (by kernel_rfl) rfl (RDs.cons rfl ?_ (RDs.nil))
          have sz_34 := S.size
          have ltb_2_34 := hb_2.lt
          have szS5_34 := S5.size
          have ltb_5_34 := hb_5.lt
          have ltb_8_34 := hb_8.lt
          have ltb_31_34 := hb_31.lt
          refine RL.append2 (base := E) (rows := []) (news := (fewA A).free.map fun x => [i6 x]) sl23 ze3 rfl rfl rfl rfl (.inl (Own.lit0 hb_31 (by omega))) (hAf.sub S) (by simp only [List.length_map]) (by intro r hr; obtain ⟨x, _, rfl⟩ := List.mem_map.1 hr; rfl) (by rw [List.all_eq_true]; intro r hr; obtain ⟨x, _, rfl⟩ := List.mem_map.1 hr; rfl) (by (try simp only [List.length_map, List.length_nil, List.length_append, List.length_cons]); omega) (by (try simp only [List.length_map, List.length_nil, List.length_append, List.length_cons]); omega) (by omega) rfl rfl (fun v_34 w_34 hc_34 ho_34 ag_34 ob_34 => ?_)
          have o34 := ho_34 (.inr (Own.lit0 hb_31 (by omega)))
          have d_o34_b_2 := obNe ob_34 (fun k hk e => n_2__31.symm ((obLit hk).trans e)) hb_2.lt
          have d_o34_b_5 := obNe ob_34 (fun k hk e => n_5__31.symm ((obLit hk).trans e)) hb_5.lt
          have d_o34_b_8 := obNe ob_34 (fun k hk e => n_8__31.symm ((obLit hk).trans e)) hb_8.lt
          have dd_o34_o30 := obDD ob_34 (fun k hk h2 => d_o30_b_31 k h2 (obLit hk).symm) (fun k hk => (o30.ge k hk).2)
          have S := S.agrN ag_34 (fun k e => Nat.le_trans (by omega) e.2)
          have hb_2 := hb_2.step ag_34 (fun e => n_2__31.symm (obLit e.1))
          have S5 := S5.agrN ag_34 (fun k e => Nat.le_trans (by omega) e.2)
          have hb_5 := hb_5.step ag_34 (fun e => n_5__31.symm (obLit e.1))
          have szD := Nat.le_trans szD ag_34.size
          have hb_8 := hb_8.step ag_34 (fun e => n_8__31.symm (obLit e.1))
          have o30 := o30.step ag_34 (fun k hk e => (fun k hk h2 => d_o30_b_31 k h2 (obLit hk).symm) k e.1 hk)
          obtain ⟨a_34, c_34, rfl, k_34⟩ := o34.form
          refine RD.back (ag_34.mono fun k _ e => by have := e.2; omega) ?_
          refine RD.take 8 rfl (by kernel_rfl) (by kernel_rfl) (by kernel_rfl) (fun w' s' => .buildS ze25 pl25 rfl rfl) rfl rfl ?_
          refine RD.all [10] (by kernel_rfl) rfl (RDs.cons rfl ?_ (RDs.nil))
          refine RL.store sh25 rfl rfl rfl hb_8 (by exact Nat.le_of_ble_eq_true rfl) (by rfl) rfl (fun w21 z21 hb_8 a21 => ?_)
          have S := S.upd a21 ge_8
          have hb_2 := hb_2.upd a21 n_2__8
          have S5 := S5.upd a21 geS5_8
          have hb_5 := hb_5.upd a21 n_5__8
          have szD := Nat.le_trans szD a21.size
          have o30 := o30.updD a21 d_o30_b_8
          have o34 := o34.updD a21 d_o34_b_8
          refine RD.backW rfl (a21.mono fun k _ e => e ▸ (.inr fr_b_8)) ?_
          exact RD.done (by kernel_rfl) (fun a ka => ⟨(b_8, (a_30, c_30), (a_34, c_34)), ⟨n_2__8, n_5__8, by omega, hb_2, hb_5, hb_8, o30, o34, d_o30_b_8, d_o34_b_8, dd_o34_o30, S5, S⟩, ka.keep (keep_of (by repeat (first | exact trivial | refine And.intro rfl ?_)))⟩)
    ·
      refine RL.buildSlice0 sl23 rfl rfl (fun b_31 w_31 e_31 z_31 hb_31 s_31 => ?_)
      have fr_b_31 : w9.heap.size ≤ b_31 := by rw [e_31]; exact szD
      have ge_31 := S.le e_31
      have n_2__31 := hb_2.ne e_31
      have n_5__31 := hb_5.ne e_31
      have S := S.trans s_31
      have hb_2 := hb_2.sub s_31
      have geS5_31 := S5.le e_31
      have S5 := S5.trans s_31
      have hb_5 := hb_5.sub s_31
      have szD := Nat.le_trans szD s_31.size
      refine RD.back s_31.agr ?_
      refine RD.all [0, 9] (by kernel_rfl) rfl (RDs.cons rfl ?_ (RDs.cons rfl ?_ (RDs.nil)))
      ·
        refine RL.buildSlice0 sl22 rfl rfl (fun b_27 w_27 e_27 z_27 hb_27 s_27 => ?_)
        have fr_b_27 : w9.heap.size ≤ b_27 := by rw [e_27]; exact szD
        have ge_27 := S.le e_27
        have n_2__27 := hb_2.ne e_27
        have n_5__27 := hb_5.ne e_27
        have n_31__27 := hb_31.ne e_27
        have S := S.trans s_27
        have hb_2 := hb_2.sub s_27
        have geS5_27 := S5.le e_27
        have S5 := S5.trans s_27
        have hb_5 := hb_5.sub s_27
        have szD := Nat.le_trans szD s_27.size
        have hb_31 := hb_31.sub s_27
        refine RD.back s_27.agr ?_
        refine RD.all [3, 9] (by kernel_rfl) rfl (RDs.cons rfl ?_ (RDs.cons rfl ?_ (RDs.nil)))
        ·
          have sz_30 := S.size
          have ltb_2_30 := hb_2.lt
          have szS5_30 := S5.size
          have ltb_5_30 := hb_5.lt
          have ltb_31_30 := hb_31.lt
          have ltb_27_30 := hb_27.lt
          refine RL.append2 (base := E) (rows := []) (news := (fewA A).nodes.map Node.cells) sl22 ze35 rfl rfl rfl rfl (.inl (Own.lit0 hb_27 (by omega))) (hAn.sub S) (by simp only [List.length_map]) (by intro r hr; obtain ⟨x, _, rfl⟩ := List.mem_map.1 hr; rfl) (by rw [List.all_eq_true]; intro r hr; obtain ⟨x, _, rfl⟩ := List.mem_map.1 hr; rfl) (by (try simp only [List.length_map, List.length_nil, List.length_append, List.length_cons]); omega) (by (try simp only [List.length_map, List.length_nil, List.length_append, List.length_cons]); omega) (by omega) rfl rfl (fun v_30 w_30 hc_30 ho_30 ag_30 ob_30 => ?_)
          have o30 := ho_30 (.inr (Own.lit0 hb_27 (by omega)))
          have d_o30_b_2 := obNe ob_30 (fun k hk e => n_2__27.symm ((obLit hk).trans e)) hb_2.lt
          have d_o30_b_5 := obNe ob_30 (fun k hk e => n_5__27.symm ((obLit hk).trans e)) hb_5.lt
          have d_o30_b_31 := obNe ob_30 (fun k hk e => n_31__27.symm ((obLit hk).trans e)) hb_31.lt
          have S := S.agrN ag_30 (fun k e => Nat.le_trans (by omega) e.2)
          have hb_2 := hb_2.step ag_30 (fun e => n_2__27.symm (obLit e.1))
          have S5 := S5.agrN ag_30 (fun k e => Nat.le_trans (by omega) e.2)
          have hb_5 := hb_5.step ag_30 (fun e => n_5__27.symm (obLit e.1))
          have szD := Nat.le_trans szD ag_30.size
          have hb_31 := hb_31.step ag_30 (fun e => n_31__27.symm (obLit e.1))
          obtain ⟨a_30, c_30, rfl, k_30⟩ := o30.form
          refine RD.back (ag_30.mono fun k _ e => by have := e.2; omega) ?_
          refine RD.all [7, 9] (by kernel_rfl) rfl (RDs.cons rfl ?_ (RDs.cons rfl ?_ (RDs.nil)))
          ·
            have sz_34 := S.size
            have ltb_2_34 := hb_2.lt
            have szS5_34 := S5.size
            have ltb_5_34 := hb_5.lt
            have ltb_31_34 := hb_31.lt
            refine RL.append2 (base := E) (rows := []) (news := (fewA A).free.map fun x => [i6 x]) sl23 ze3 rfl rfl rfl rfl (.inl (Own.lit0 hb_31 (by omega))) (hAf.sub S) (by simp only [List.length_map]) (by intro r hr; obtain ⟨x, _, rfl⟩ := List.mem_map.1 hr; rfl) (by rw [List.all_eq_true]; intro r hr; obtain ⟨x, _, rfl⟩ := List.mem_map.1 hr; rfl) (by (try simp only [List.length_map, List.length_nil, List.length_append, List.length_cons]); omega) (by (try simp only [List.length_map, List.length_nil, List.length_append, List.length_cons]); omega) (by omega) rfl rfl (fun v_34 w_34 hc_34 ho_34 ag_34 ob_34 => ?_)
            have o34 := ho_34 (.inr (Own.lit0 hb_31 (by omega)))
            have d_o34_b_2 := obNe ob_34 (fun k hk e => n_2__31.symm ((obLit hk).trans e)) hb_2.lt
            have d_o34_b_5 := obNe ob_34 (fun k hk e => n_5__31.symm ((obLit hk).trans e)) hb_5.lt
            have dd_o34_o30 := obDD ob_34 (fun k hk h2 => d_o30_b_31 k h2 (obLit hk).symm) (fun k hk => (o30.ge k hk).2)
            have S := S.agrN ag_34 (fun k e => Nat.le_trans (by omega) e.2)
            have hb_2 := hb_2.step ag_34 (fun e => n_2__31.symm (obLit e.1))
            have S5 := S5.agrN ag_34 (fun k e => Nat.le_trans (by omega) e.2)
            have hb_5 := hb_5.step ag_34 (fun e => n_5__31.symm (obLit e.1))
            have szD := Nat.le_trans szD ag_34.size
            have o30 := o30.step ag_34 (fun k hk e => (fun k hk h2 => d_o30_b_31 k h2 (obLit hk).symm) k e.1 hk)
            obtain ⟨a_34, c_34, rfl, k_34⟩ := o34.form
            refine RD.back (ag_34.mono fun k _ e => by have := e.2; omega) ?_
            refine RD.take 8 rfl (by kernel_rfl) (by kernel_rfl) (by kernel_rfl) (fun w' s' => .buildS ze25 pl25 rfl rfl) rfl rfl ?_
            refine RD.all [9] (by kernel_rfl) rfl (RDs.cons rfl ?_ (RDs.nil))
            refine RL.alloc ze25 rfl rfl (fun b_8 w_8 e_8 z_8 hb_8 s_8 => ?_)
            have fr_b_8 : w9.heap.size ≤ b_8 := by rw [e_8]; exact szD
            have ge_8 := S.le e_8
            have n_2__8 := hb_2.ne e_8
            have n_5__8 := hb_5.ne e_8
            have d_o30_b_8 := o30.neNew e_8
            have d_o34_b_8 := o34.neNew e_8
            have S := S.trans s_8
            have hb_2 := hb_2.sub s_8
            have geS5_8 := S5.le e_8
            have S5 := S5.trans s_8
            have hb_5 := hb_5.sub s_8
            have szD := Nat.le_trans szD s_8.size
            have o30 := o30.sub s_8
            have o34 := o34.sub s_8
            refine RD.back s_8.agr ?_
            refine RD.all [10] (by kernel_rfl) rfl (RDs.cons rfl ?_ (RDs.nil))
            refine RL.store sh25 rfl rfl rfl hb_8 (by exact Nat.le_of_ble_eq_true rfl) (by rfl) rfl (fun w22 z22 hb_8 a22 => ?_)
            have S := S.upd a22 ge_8
            have hb_2 := hb_2.upd a22 n_2__8
            have S5 := S5.upd a22 geS5_8
            have hb_5 := hb_5.upd a22 n_5__8
            have szD := Nat.le_trans szD a22.size
            have o30 := o30.updD a22 d_o30_b_8
            have o34 := o34.updD a22 d_o34_b_8
            refine RD.backW rfl (a22.mono fun k _ e => e ▸ (.inr fr_b_8)) ?_
            exact RD.done (by kernel_rfl) (fun a ka => ⟨(b_8, (a_30, c_30), (a_34, c_34)), ⟨n_2__8, n_5__8, by omega, hb_2, hb_5, hb_8, o30, o34, d_o30_b_8, d_o34_b_8, dd_o34_o30, S5, S⟩, ka.keep (keep_of (by repeat (first | exact trivial | refine And.intro rfl ?_)))⟩)
          ·
            refine RL.alloc ze25 rfl rfl (fun b_8 w_8 e_8 z_8 hb_8 s_8 => ?_)
            have fr_b_8 : w9.heap.size ≤ b_8 := by rw [e_8]; exact szD
            have ge_8 := S.le e_8
            have n_2__8 := hb_2.ne e_8
            have n_5__8 := hb_5.ne e_8
            have n_31__8 := hb_31.ne e_8
            have d_o30_b_8 := o30.neNew e_8
            have S := S.trans s_8
            have hb_2 := hb_2.sub s_8
            have geS5_8 := S5.le e_8
            have S5 := S5.trans s_8
            have hb_5 := hb_5.sub s_8
            have szD := Nat.le_trans szD s_8.size
            have hb_31 := hb_31.sub s_8
            have o30 := o30.sub s_8
            refine RD.back s_8.agr ?_
            refine RD.all [7] (by kernel_rfl) rfl (RDs.cons rfl ?_ (RDs.nil))
            have sz_34 := S.size
            have ltb_2_34 := hb_2.lt
            have szS5_34 := S5.size
            have ltb_5_34 := hb_5.lt
            have ltb_31_34 := hb_31.lt
            have ltb_8_34 := hb_8.lt
            refine RL.append2 (base := E) (rows := []) (news := (fewA A).free.map fun x => [i6 x]) sl23 ze3 rfl rfl rfl rfl (.inl (Own.lit0 hb_31 (by omega))) (hAf.sub S) (by simp only [List.length_map]) (by intro r hr; obtain ⟨x, _, rfl⟩ := List.mem_map.1 hr; rfl) (by rw [List.all_eq_true]; intro r hr; obtain ⟨x, _, rfl⟩ := List.mem_map.1 hr; rfl) (by (try simp only [List.length_map, List.length_nil, List.length_append, List.length_cons]); omega) (by (try simp only [List.length_map, List.length_nil, List.length_append, List.length_cons]); omega) (by omega) rfl rfl (fun v_34 w_34 hc_34 ho_34 ag_34 ob_34 => ?_)
            have o34 := ho_34 (.inr (Own.lit0 hb_31 (by omega)))
            have d_o34_b_2 := obNe ob_34 (fun k hk e => n_2__31.symm ((obLit hk).trans e)) hb_2.lt
            have d_o34_b_5 := obNe ob_34 (fun k hk e => n_5__31.symm ((obLit hk).trans e)) hb_5.lt
            have dd_o34_o30 := obDD ob_34 (fun k hk h2 => d_o30_b_31 k h2 (obLit hk).symm) (fun k hk => (o30.ge k hk).2)
            have d_o34_b_8 := obNe ob_34 (fun k hk e => n_31__8 ((obLit hk).trans e)) hb_8.lt
            have S := S.agrN ag_34 (fun k e => Nat.le_trans (by omega) e.2)
            have hb_2 := hb_2.step ag_34 (fun e => n_2__31.symm (obLit e.1))
            have S5 := S5.agrN ag_34 (fun k e => Nat.le_trans (by omega) e.2)
            have hb_5 := hb_5.step ag_34 (fun e => n_5__31.symm (obLit e.1))
            have szD := Nat.le_trans szD ag_34.size
            have o30 := o30.step ag_34 (fun k hk e => (fun k hk h2 => d_o30_b_31 k h2 (obLit hk).symm) k e.1 hk)
            have hb_8 := hb_8.step ag_34 (fun e => n_31__8 (obLit e.1))
            obtain ⟨a_34, c_34, rfl, k_34⟩ := o34.form
            refine RD.back (ag_34.mono fun k _ e => by have := e.2; omega) ?_
            refine RD.take 8 rfl (by kernel_rfl) (by kernel_rfl) (by kernel_rfl) (fun w' s' => .buildS ze25 pl25 rfl rfl) rfl rfl ?_
            refine RD.all [10] (by kernel_rfl) rfl (RDs.cons rfl ?_ (RDs.nil))
            refine RL.store sh25 rfl rfl rfl hb_8 (by exact Nat.le_of_ble_eq_true rfl) (by rfl) rfl (fun w23 z23 hb_8 a23 => ?_)
            have S := S.upd a23 ge_8
            have hb_2 := hb_2.upd a23 n_2__8
            have S5 := S5.upd a23 geS5_8
            have hb_5 := hb_5.upd a23 n_5__8
            have szD := Nat.le_trans szD a23.size
            have o30 := o30.updD a23 d_o30_b_8
            have o34 := o34.updD a23 d_o34_b_8
            refine RD.backW rfl (a23.mono fun k _ e => e ▸ (.inr fr_b_8)) ?_
            exact RD.done (by kernel_rfl) (fun a ka => ⟨(b_8, (a_30, c_30), (a_34, c_34)), ⟨n_2__8, n_5__8, by omega, hb_2, hb_5, hb_8, o30, o34, d_o30_b_8, d_o34_b_8, dd_o34_o30, S5, S⟩, ka.keep (keep_of (by repeat (first | exact trivial | refine And.intro rfl ?_)))⟩)
        ·
          refine RL.alloc ze25 rfl rfl (fun b_8 w_8 e_8 z_8 hb_8 s_8 => ?_)
          have fr_b_8 : w9.heap.size ≤ b_8 := by rw [e_8]; exact szD
          have ge_8 := S.le e_8
          have n_2__8 := hb_2.ne e_8
          have n_5__8 := hb_5.ne e_8
          have n_31__8 := hb_31.ne e_8
          have n_27__8 := hb_27.ne e_8
          have S := S.trans s_8
          have hb_2 := hb_2.sub s_8
          have geS5_8 := S5.le e_8
          have S5 := S5.trans s_8
          have hb_5 := hb_5.sub s_8
          have szD := Nat.le_trans szD s_8.size
          have hb_31 := hb_31.sub s_8
          have hb_27 := hb_27.sub s_8
          refine RD.back s_8.agr ?_
          refine RD.all [3] (by kernel_rfl) rfl (RDs.cons rfl ?_ (RDs.nil))
          have sz_30 := S.size
          have ltb_2_30 := hb_2.lt
          have szS5_30 := S5.size
          have ltb_5_30 := hb_5.lt
          have ltb_31_30 := hb_31.lt
          have ltb_27_30 := hb_27.lt
          have ltb_8_30 := hb_8.lt
          refine RL.append2 (base := E) (rows := []) (news := (fewA A).nodes.map Node.cells) sl22 ze35 rfl rfl rfl rfl (.inl (Own.lit0 hb_27 (by omega))) (hAn.sub S) (by simp only [List.length_map]) (by intro r hr; obtain ⟨x, _, rfl⟩ := List.mem_map.1 hr; rfl) (by rw [List.all_eq_true]; intro r hr; obtain ⟨x, _, rfl⟩ := List.mem_map.1 hr; rfl) (by (try simp only [List.length_map, List.length_nil, List.length_append, List.length_cons]); omega) (by (try simp only [List.length_map, List.length_nil, List.length_append, List.length_cons]); omega) (by omega) rfl rfl (fun v_30 w_30 hc_30 ho_30 ag_30 ob_30 => ?_)
          have o30 := ho_30 (.inr (Own.lit0 hb_27 (by omega)))
          have d_o30_b_2 := obNe ob_30 (fun k hk e => n_2__27.symm ((obLit hk).trans e)) hb_2.lt
          have d_o30_b_5 := obNe ob_30 (fun k hk e => n_5__27.symm ((obLit hk).trans e)) hb_5.lt
          have d_o30_b_31 := obNe ob_30 (fun k hk e => n_31__27.symm ((obLit hk).trans e)) hb_31.lt
          have d_o30_b_8 := obNe ob_30 (fun k hk e => n_27__8 ((obLit hk).trans e)) hb_8.lt
          have S := S.agrN ag_30 (fun k e => Nat.le_trans (by omega) e.2)
          have hb_2 := hb_2.step ag_30 (fun e => n_2__27.symm (obLit e.1))
          have S5 := S5.agrN ag_30 (fun k e => Nat.le_trans (by omega) e.2)
          have hb_5 := hb_5.step ag_30 (fun e => n_5__27.symm (obLit e.1))
          have szD := Nat.le_trans szD ag_30.size
          have hb_31 := hb_31.step ag_30 (fun e => n_31__27.symm (obLit e.1))
          have hb_8 := hb_8.step ag_30 (fun e => n_27__8 (obLit e.1))
          obtain ⟨a_30, c_30, rfl, k_30⟩ := o30.form
          refine RD.back (ag_30.mono fun k _ e => by have := e.2; omega) ?_
          refine RD.all [7] (by kernel_rfl) rfl (RDs.cons rfl ?_ (RDs.nil))
          have sz_34 := S.size
          have ltb_2_34 := hb_2.lt
          have szS5_34 := S5.size
          have ltb_5_34 := hb_5.lt
          have ltb_31_34 := hb_31.lt
          have ltb_8_34 := hb_8.lt
          refine RL.append2 (base := E) (rows := []) (news := (fewA A).free.map fun x => [i6 x]) sl23 ze3 rfl rfl rfl rfl (.inl (Own.lit0 hb_31 (by omega))) (hAf.sub S) (by simp only [List.length_map]) (by intro r hr; obtain ⟨x, _, rfl⟩ := List.mem_map.1 hr; rfl) (by rw [List.all_eq_true]; intro r hr; obtain ⟨x, _, rfl⟩ := List.mem_map.1 hr; rfl) (by (try simp only [List.length_map, List.length_nil, List.length_append, List.length_cons]); omega) (by (try simp only [List.length_map, List.length_nil, List.length_append, List.length_cons]); omega) (by omega) rfl rfl (fun v_34 w_34 hc_34 ho_34 ag_34 ob_34 => ?_)
          have o34 := ho_34 (.inr (Own.lit0 hb_31 (by omega)))
          have d_o34_b_2 := obNe ob_34 (fun k hk e => n_2__31.symm ((obLit hk).trans e)) hb_2.lt
          have d_o34_b_5 := obNe ob_34 (fun k hk e => n_5__31.symm ((obLit hk).trans e)) hb_5.lt
          have d_o34_b_8 := obNe ob_34 (fun k hk e => n_31__8 ((obLit hk).trans e)) hb_8.lt
          have dd_o34_o30 := obDD ob_34 (fun k hk h2 => d_o30_b_31 k h2 (obLit hk).symm) (fun k hk => (o30.ge k hk).2)
          have S := S.agrN ag_34 (fun k e => Nat.le_trans (by omega) e.2)
          have hb_2 := hb_2.step ag_34 (fun e => n_2__31.symm (obLit e.1))
          have S5 := S5.agrN ag_34 (fun k e => Nat.le_trans (by omega) e.2)
          have hb_5 := hb_5.step ag_34 (fun e => n_5__31.symm (obLit e.1))
          have szD := Nat.le_trans szD ag_34.size
          have hb_8 := hb_8.step ag_34 (fun e => n_31__8 (obLit e.1))
          have o30 := o30.step ag_34 (fun k hk e => (fun k hk h2 => d_o30_b_31 k h2 (obLit hk).symm) k e.1 hk)
          obtain ⟨a_34, c_34, rfl, k_34⟩ := o34.form
          refine RD.back (ag_34.mono fun k _ e => by have := e.2; omega) ?_
          refine RD.take 8 rfl (by kernel_rfl) (by kernel_rfl) (by kernel_rfl) (fun w' s' => .buildS ze25 pl25 rfl rfl) rfl rfl ?_
          refine RD.all [10] (by kernel_rfl) rfl (RDs.cons rfl ?_ (RDs.nil))
          refine RL.store sh25 rfl rfl rfl hb_8 (by exact Nat.le_of_ble_eq_true rfl) (by rfl) rfl (fun w24 z24 hb_8 a24 => ?_)
          have S := S.upd a24 ge_8
          have hb_2 := hb_2.upd a24 n_2__8
          have S5 := S5.upd a24 geS5_8
          have hb_5 := hb_5.upd a24 n_5__8
          have szD := Nat.le_trans szD a24.size
          have o30 := o30.updD a24 d_o30_b_8
          have o34 := o34.updD a24 d_o34_b_8
          refine RD.backW rfl (a24.mono fun k _ e => e ▸ (.inr fr_b_8)) ?_
          exact RD.done (by kernel_rfl) (fun a ka => ⟨(b_8, (a_30, c_30), (a_34, c_34)), ⟨n_2__8, n_5__8, by omega, hb_2, hb_5, hb_8, o30, o34, d_o30_b_8, d_o34_b_8, dd_o34_o30, S5, S⟩, ka.keep (keep_of (by repeat (first | exact trivial | refine And.intro rfl ?_)))⟩)
      ·
        refine RL.alloc ze25 rfl rfl (fun b_8 w_8 e_8 z_8 hb_8 s_8 => ?_)
        have fr_b_8 : w9.heap.size ≤ b_8 := by rw [e_8]; exact szD
        have ge_8 := S.le e_8
        have n_2__8 := hb_2.ne e_8
        have n_5__8 := hb_5.ne e_8
        have n_31__8 := hb_31.ne e_8
        have S := S.trans s_8
        have hb_2 := hb_2.sub s_8
        have geS5_8 := S5.le e_8
        have S5 := S5.trans s_8
        have hb_5 := hb_5.sub s_8
        have szD := Nat.le_trans szD s_8.size
        have hb_31 := hb_31.sub s_8
        refine RD.back s_8.agr ?_
        refine RD.all [0] (by kernel_rfl) rfl (RDs.cons rfl ?_ (RDs.nil))
        refine RL.buildSlice0 sl22 rfl rfl (fun b_27 w_27 e_27 z_27 hb_27 s_27 => ?_)
        have fr_b_27 : w9.heap.size ≤ b_27 := by rw [e_27]; exact szD
        have ge_27 := S.le e_27
        have n_2__27 := hb_2.ne e_27
        have n_5__27 := hb_5.ne e_27
        have n_31__27 := hb_31.ne e_27
        have n_8__27 := hb_8.ne e_27
        have S := S.trans s_27
        have hb_2 := hb_2.sub s_27
        have geS5_27 := S5.le e_27
        have S5 := S5.trans s_27
        have hb_5 := hb_5.sub s_27
        have szD := Nat.le_trans szD s_27.size
        have hb_31 := hb_31.sub s_27
        have hb_8 := hb_8.sub s_27
        refine RD.back s_27.agr ?_
        refine RD.all [3] (by kernel_rfl) rfl (RDs.cons rfl ?_ (RDs.nil))
        have sz_30 := S.size
        have ltb_2_30 := hb_2.lt
        have szS5_30 := S5.size
        have ltb_5_30 := hb_5.lt
        have ltb_31_30 := hb_31.lt
        have ltb_8_30 := hb_8.lt
        have ltb_27_30 := hb_27.lt
        refine RL.append2 (base := E) (rows := []) (news := (fewA A).nodes.map Node.cells) sl22 ze35 rfl rfl rfl rfl (.inl (Own.lit0 hb_27 (by omega))) (hAn.sub S) (by simp only [List.length_map]) (by intro r hr; obtain ⟨x, _, rfl⟩ := List.mem_map.1 hr; rfl) (by rw [List.all_eq_true]; intro r hr; obtain ⟨x, _, rfl⟩ := List.mem_map.1 hr; rfl) (by (try simp only [List.length_map, List.length_nil, List.length_append, List.length_cons]); omega) (by (try simp only [List.length_map, List.length_nil, List.length_append, List.length_cons]); omega) (by omega) rfl rfl (fun v_30 w_30 hc_30 ho_30 ag_30 ob_30 => ?_)
        have o30 := ho_30 (.inr (Own.lit0 hb_27 (by omega)))
        have d_o30_b_2 := obNe ob_30 (fun k hk e => n_2__27.symm ((obLit hk).trans e)) hb_2.lt
        have d_o30_b_5 := obNe ob_30 (fun k hk e => n_5__27.symm ((obLit hk).trans e)) hb_5.lt
        have d_o30_b_31 := obNe ob_30 (fun k hk e => n_31__27.symm ((obLit hk).trans e)) hb_31.lt
        have d_o30_b_8 := obNe ob_30 (fun k hk e => n_8__27.symm ((obLit hk).trans e)) hb_8.lt
        have S := S.agrN ag_30 (fun k e => Nat.le_trans (by omega) e.2)
        have hb_2 := hb_2.step ag_30 (fun e => n_2__27.symm (obLit e.1))
        have S5 := S5.agrN ag_30 (fun k e => Nat.le_trans (by omega) e.2)
        have hb_5 := hb_5.step ag_30 (fun e => n_5__27.symm (obLit e.1))
        have szD := Nat.le_trans szD ag_30.size
        have hb_31 := hb_31.step ag_30 (fun e => n_31__27.symm (obLit e.1))
        have hb_8 := hb_8.step ag_30 (fun e => n_8__27.symm (obLit e.1))
        obtain ⟨a_30, c_30, rfl, k_30⟩ := o30.form
        refine RD.back (ag_30.mono fun k _ e => by have := e.2; omega) ?_
        refine RD.all [7] (by kernel_rfl) rfl (RDs.cons rfl ?_ (RDs.nil))
        have sz_34 := S.size
        have ltb_2_34 := hb_2.lt
        have szS5_34 := S5.size
        have ltb_5_34 := hb_5.lt
        have ltb_31_34 := hb_31.lt
        have ltb_8_34 := hb_8.lt
        refine RL.append2 (base := E) (rows := []) (news := (fewA A).free.map fun x => [i6 x]) sl23 ze3 rfl rfl rfl rfl (.inl (Own.lit0 hb_31 (by omega))) (hAf.sub S) (by simp only [List.length_map]) (by intro r hr; obtain ⟨x, _, rfl⟩ := List.mem_map.1 hr; rfl) (by rw [List.all_eq_true]; intro r hr; obtain ⟨x, _, rfl⟩ := List.mem_map.1 hr; rfl) (by (try simp only [List.length_map, List.length_nil, List.length_append, List.length_cons]); omega) (by (try simp only [List.length_map, List.length_nil, List.length_append, List.length_cons]); omega) (by omega) rfl rfl (fun v_34 w_34 hc_34 ho_34 ag_34 ob_34 => ?_)
        have o34 := ho_34 (.inr (Own.lit0 hb_31 (by omega)))
        have d_o34_b_2 := obNe ob_34 (fun k hk e => n_2__31.symm ((obLit hk).trans e)) hb_2.lt
        have d_o34_b_5 := obNe ob_34 (fun k hk e => n_5__31.symm ((obLit hk).trans e)) hb_5.lt
        have d_o34_b_8 := obNe ob_34 (fun k hk e => n_31__8 ((obLit hk).trans e)) hb_8.lt
        have dd_o34_o30 := obDD ob_34 (fun k hk h2 => d_o30_b_31 k h2 (obLit hk).symm) (fun k hk => (o30.ge k hk).2)
        have S := S.agrN ag_34 (fun k e => Nat.le_trans (by omega) e.2)
        have hb_2 := hb_2.step ag_34 (fun e => n_2__31.symm (obLit e.1))
        have S5 := S5.agrN ag_34 (fun k e => Nat.le_trans (by omega) e.2)
        have hb_5 := hb_5.step ag_34 (fun e => n_5__31.symm (obLit e.1))
        have szD := Nat.le_trans szD ag_34.size
        have hb_8 := hb_8.step ag_34 (fun e => n_31__8 (obLit e.1))
        have o30 := o30.step ag_34 (fun k hk e => (fun k hk h2 => d_o30_b_31 k h2 (obLit hk).symm) k e.1 hk)
        obtain ⟨a_34, c_34, rfl, k_34⟩ := o34.form
        refine RD.back (ag_34.mono fun k _ e => by have := e.2; omega) ?_
        refine RD.take 8 rfl (by kernel_rfl) (by kernel_rfl) (by kernel_rfl) (fun w' s' => .buildS ze25 pl25 rfl rfl) rfl rfl ?_
        refine RD.all [10] (by kernel_rfl) rfl (RDs.cons rfl ?_ (RDs.nil))
        refine RL.store sh25 rfl rfl rfl hb_8 (by exact Nat.le_of_ble_eq_true rfl) (by rfl) rfl (fun w25 z25 hb_8 a25 => ?_)
        have S := S.upd a25 ge_8
        have hb_2 := hb_2.upd a25 n_2__8
        have S5 := S5.upd a25 geS5_8
        have hb_5 := hb_5.upd a25 n_5__8
        have szD := Nat.le_trans szD a25.size
        have o30 := o30.updD a25 d_o30_b_8
        have o34 := o34.updD a25 d_o34_b_8
        refine RD.backW rfl (a25.mono fun k _ e => e ▸ (.inr fr_b_8)) ?_
        exact RD.done (by kernel_rfl) (fun a ka => ⟨(b_8, (a_30, c_30), (a_34, c_34)), ⟨n_2__8, n_5__8, by omega, hb_2, hb_5, hb_8, o30, o34, d_o30_b_8, d_o34_b_8, dd_o34_o30, S5, S⟩, ka.keep (keep_of (by repeat (first | exact trivial | refine And.intro rfl ?_)))⟩)
    ·
      refine RL.alloc ze25 rfl rfl (fun b_8 w_8 e_8 z_8 hb_8 s_8 => ?_)
      have fr_b_8 : w9.heap.size ≤ b_8 := by rw [e_8]; exact szD
      have ge_8 := S.le e_8
      have n_2__8 := hb_2.ne e_8
      have n_5__8 := hb_5.ne e_8
      have S := S.trans s_8
      have hb_2 := hb_2.sub s_8
      have geS5_8 := S5.le e_8
      have S5 := S5.trans s_8
      have hb_5 := hb_5.sub s_8
      have szD := Nat.le_trans szD s_8.size
      refine RD.back s_8.agr ?_
      refine RD.all [0, 4] (by kernel_rfl) rfl (RDs.cons rfl ?_ (RDs.cons rfl ?_ (RDs.nil)))
      ·
        refine RL.buildSlice0 sl22 rfl rfl (fun b_27 w_27 e_27 z_27 hb_27 s_27 => ?_)
        have fr_b_27 : w9.heap.size ≤ b_27 := by rw [e_27]; exact szD
        have ge_27 := S.le e_27
        have n_2__27 := hb_2.ne e_27
        have n_5__27 := hb_5.ne e_27
        have n_8__27 := hb_8.ne e_27
        have S := S.trans s_27
        have hb_2 := hb_2.sub s_27
        have geS5_27 := S5.le e_27
        have S5 := S5.trans s_27
        have hb_5 := hb_5.sub s_27
        have szD := Nat.le_trans szD s_27.size
        have hb_8 := hb_8.sub s_27
        refine RD.back s_27.agr ?_
        refine RD.all [3, 4] (by kernel_rfl) rfl (RDs.cons rfl ?_ (RDs.cons rfl ?_ (RDs.nil)))
        ·
          have sz_30 := S.size
          have ltb_2_30 := hb_2.lt
          have szS5_30 := S5.size
          have ltb_5_30 := hb_5.lt
          have ltb_8_30 := hb_8.lt
          have ltb_27_30 := hb_27.lt
          refine RL.append2 (base := E) (rows := []) (news := (fewA A).nodes.map Node.cells) sl22 ze35 rfl rfl rfl rfl (.inl (Own.lit0 hb_27 (by omega))) (hAn.sub S) (by simp only [List.length_map]) (by intro r hr; obtain ⟨x, _, rfl⟩ := List.mem_map.1 hr; rfl) (by rw [List.all_eq_true]; intro r hr; obtain ⟨x, _, rfl⟩ := List.mem_map.1 hr; rfl) (by (try simp only [List.length_map, List.length_nil, List.length_append, List.length_cons]); omega) (by (try simp only [List.length_map, List.length_nil, List.length_append, List.length_cons]); omega) (by omega) rfl rfl (fun v_30 w_30 hc_30 ho_30 ag_30 ob_30 => ?_)
          have o30 := ho_30 (.inr (Own.lit0 hb_27 (by omega)))
          have d_o30_b_2 := obNe ob_30 (fun k hk e => n_2__27.symm ((obLit hk).trans e)) hb_2.lt
          have d_o30_b_5 := obNe ob_30 (fun k hk e => n_5__27.symm ((obLit hk).trans e)) hb_5.lt
          have d_o30_b_8 := obNe ob_30 (fun k hk e => n_8__27.symm ((obLit hk).trans e)) hb_8.lt
          have S := S.agrN ag_30 (fun k e => Nat.le_trans (by omega) e.2)
          have hb_2 := hb_2.step ag_30 (fun e => n_2__27.symm (obLit e.1))
          have S5 := S5.agrN ag_30 (fun k e => Nat.le_trans (by omega) e.2)
          have hb_5 := hb_5.step ag_30 (fun e => n_5__27.symm (obLit e.1))
          have szD := Nat.le_trans szD ag_30.size
          have hb_8 := hb_8.step ag_30 (fun e => n_8__27.symm (obLit e.1))
          obtain ⟨a_30, c_30, rfl, k_30⟩ := o30.form
          refine RD.back (ag_30.mono fun k _ e => by have := e.2; omega) ?_
          refine RD.all [4] (by kernel_rfl) rfl (RDs.cons rfl ?_ (RDs.nil))
          refine RL.buildSlice0 sl23 rfl rfl (fun b_31 w_31 e_31 z_31 hb_31 s_31 => ?_)
          have fr_b_31 : w9.heap.size ≤ b_31 := by rw [e_31]; exact szD
          have ge_31 := S.le e_31
          have n_2__31 := hb_2.ne e_31
          have n_5__31 := hb_5.ne e_31
          have n_8__31 := hb_8.ne e_31
          have d_o30_b_31 := o30.neNew e_31
          have S := S.trans s_31
          have hb_2 := hb_2.sub s_31
          have geS5_31 := S5.le e_31
          have S5 := S5.trans s_31
          have hb_5 := hb_5.sub s_31
          have szD := Nat.le_trans szD s_31.size
          have hb_8 := hb_8.sub s_31
          have o30 := o30.sub s_31
          refine RD.back s_31.agr ?_
          refine RD.all [7] (by kernel_rfl) rfl (RDs.cons rfl ?_ (RDs.nil))
          have sz_34 := S.size
          have ltb_2_34 := hb_2.lt
          have szS5_34 := S5.size
          have ltb_5_34 := hb_5.lt
          have ltb_8_34 := hb_8.lt
          have ltb_31_34 := hb_31.lt
          refine RL.append2 (base := E) (rows := []) (news := (fewA A).free.map fun x => [i6 x]) sl23 ze3 rfl rfl rfl rfl (.inl (Own.lit0 hb_31 (by omega))) (hAf.sub S) (by simp only [List.length_map]) (by intro r hr; obtain ⟨x, _, rfl⟩ := List.mem_map.1 hr; rfl) (by rw [List.all_eq_true]; intro r hr; obtain ⟨x, _, rfl⟩ := List.mem_map.1 hr; rfl) (by (try simp only [List.length_map, List.length_nil, List.length_append, List.length_cons]); omega) (by (try simp only [List.length_map, List.length_nil, List.length_append, List.length_cons]); omega) (by omega) rfl rfl (fun v_34 w_34 hc_34 ho_34 ag_34 ob_34 => ?_)
          have o34 := ho_34 (.inr (Own.lit0 hb_31 (by omega)))
          have d_o34_b_2 := obNe ob_34 (fun k hk e => n_2__31.symm ((obLit hk).trans e)) hb_2.lt
          have d_o34_b_5 := obNe ob_34 (fun k hk e => n_5__31.symm ((obLit hk).trans e)) hb_5.lt
          have d_o34_b_8 := obNe ob_34 (fun k hk e => n_8__31.symm ((obLit hk).trans e)) hb_8.lt
          have dd_o34_o30 := obDD ob_34 (fun k hk h2 => d_o30_b_31 k h2 (obLit hk).symm) (fun k hk => (o30.ge k hk).2)
          have S := S.agrN ag_34 (fun k e => Nat.le_trans (by omega) e.2)
          have hb_2 := hb_2.step ag_34 (fun e => n_2__31.symm (obLit e.1))
          have S5 := S5.agrN ag_34 (fun k e => Nat.le_trans (by omega) e.2)
          have hb_5 := hb_5.step ag_34 (fun e => n_5__31.symm (obLit e.1))
          have szD := Nat.le_trans szD ag_34.size
          have hb_8 := hb_8.step ag_34 (fun e => n_8__31.symm (obLit e.1))
          have o30 := o30.step ag_34 (fun k hk e => (fun k hk h2 => d_o30_b_31 k h2 (obLit hk).symm) k e.1 hk)
          obtain ⟨a_34, c_34, rfl, k_34⟩ := o34.form
          refine RD.back (ag_34.mono fun k _ e => by have := e.2; omega) ?_
          refine RD.take 8 rfl (by kernel_rfl) (by kernel_rfl) (by kernel_rfl) (fun w' s' => .buildS ze25 pl25 rfl rfl) rfl rfl ?_
          refine RD.all [10] (by kernel_rfl) rfl (RDs.cons rfl ?_ (RDs.nil))
          refine RL.store sh25 rfl rfl rfl hb_8 (by exact Nat.le_of_ble_eq_true rfl) (by rfl) rfl (fun w26 z26 hb_8 a26 => ?_)
          have S := S.upd a26 ge_8
          have hb_2 := hb_2.upd a26 n_2__8
          have S5 := S5.upd a26 geS5_8
          have hb_5 := hb_5.upd a26 n_5__8
          have szD := Nat.le_trans szD a26.size
          have o30 := o30.updD a26 d_o30_b_8
          have o34 := o34.updD a26 d_o34_b_8
          refine RD.backW rfl (a26.mono fun k _ e => e ▸ (.inr fr_b_8)) ?_
          exact RD.done (by kernel_rfl) (fun a ka => ⟨(b_8, (a_30, c_30), (a_34, c_34)), ⟨n_2__8, n_5__8, by omega, hb_2, hb_5, hb_8, o30, o34, d_o30_b_8, d_o34_b_8, dd_o34_o30, S5, S⟩, ka.keep (keep_of (by repeat (first | exact trivial | refine And.intro rfl ?_)))⟩)
        ·
          refine RL.buildSlice0 sl23 rfl rfl (fun b_31 w_31 e_31 z_31 hb_31 s_31 => ?_)
          have fr_b_31 : w9.heap.size ≤ b_31 := by rw [e_31]; exact szD
          have ge_31 := S.le e_31
          have n_2__31 := hb_2.ne e_31
          have n_5__31 := hb_5.ne e_31
          have n_8__31 := hb_8.ne e_31
          have n_27__31 := hb_27.ne e_31
          have S := S.trans s_31
          have hb_2 := hb_2.sub s_31
          have geS5_31 := S5.le e_31
          have S5 := S5.trans s_31
          have hb_5 := hb_5.sub s_31
          have szD := Nat.le_trans szD s_31.size
          have hb_8 := hb_8.sub s_31
          have hb_27 := hb_27.sub s_31
          refine RD.back s_31.agr ?_
          refine RD.all [3] (by kernel_rfl) rfl (RDs.cons rfl ?_ (RDs.nil))
          have sz_30 := S.size
          have ltb_2_30 := hb_2.lt
          have szS5_30 := S5.size
          have ltb_5_30 := hb_5.lt
          have ltb_8_30 := hb_8.lt
          have ltb_27_30 := hb_27.lt
          have ltb_31_30 := hb_31.lt
          refine RL.append2 (base := E) (rows := []) (news := (fewA A).nodes.map Node.cells) sl22 ze35 rfl rfl rfl rfl (.inl (Own.lit0 hb_27 (by omega))) (hAn.sub S) (by simp only [List.length_map]) (by intro r hr; obtain ⟨x, _, rfl⟩ := List.mem_map.1 hr; rfl) (by rw [List.all_eq_true]; intro r hr; obtain ⟨x, _, rfl⟩ := List.mem_map.1 hr; rfl) (by (try simp only [List.length_map, List.length_nil, List.length_append, List.length_cons]); omega) (by (try simp only [List.length_map, List.length_nil, List.length_append, List.length_cons]); omega) (by omega) rfl rfl (fun v_30 w_30 hc_30 ho_30 ag_30 ob_30 => ?_)
          have o30 := ho_30 (.inr (Own.lit0 hb_27 (by omega)))
          have d_o30_b_2 := obNe ob_30 (fun k hk e => n_2__27.symm ((obLit hk).trans e)) hb_2.lt
          have d_o30_b_5 := obNe ob_30 (fun k hk e => n_5__27.symm ((obLit hk).trans e)) hb_5.lt
          have d_o30_b_8 := obNe ob_30 (fun k hk e => n_8__27.symm ((obLit hk).trans e)) hb_8.lt
          have d_o30_b_31 := obNe ob_30 (fun k hk e => n_27__31 ((obLit hk).trans e)) hb_31.lt
          have S := S.agrN ag_30 (fun k e => Nat.le_trans (by omega) e.2)
          have hb_2 := hb_2.step ag_30 (fun e => n_2__27.symm (obLit e.1))
          have S5 := S5.agrN ag_30 (fun k e => Nat.le_trans (by omega) e.2)
          have hb_5 := hb_5.step ag_30 (fun e => n_5__27.symm (obLit e.1))
          have szD := Nat.le_trans szD ag_30.size
          have hb_8 := hb_8.step ag_30 (fun e => n_8__27.symm (obLit e.1))
          have hb_31 := hb_31.step ag_30 (fun e => n_27__31 (obLit e.1))
          obtain ⟨a_30, c_30, rfl, k_30⟩ := o30.form
          refine RD.back (ag_30.mono fun k _ e => by have := e.2; omega) ?_
          refine RD.all [7] (by kernel_rfl) rfl (RDs.cons rfl ?_ (RDs.nil))
          have sz_34 := S.size
          have ltb_2_34 := hb_2.lt
          have szS5_34 := S5.size
          have ltb_5_34 := hb_5.lt
          have ltb_8_34 := hb_8.lt
          have ltb_31_34 := hb_31.lt
          refine RL.append2 (base := E) (rows := []) (news := (fewA A).free.map fun x => [i6 x]) sl23 ze3 rfl rfl rfl rfl (.inl (Own.lit0 hb_31 (by omega))) (hAf.sub S) (by simp only [List.length_map]) (by intro r hr; obtain ⟨x, _, rfl⟩ := List.mem_map.1 hr; rfl) (by rw [List.all_eq_true]; intro r hr; obtain ⟨x, _, rfl⟩ := List.mem_map.1 hr; rfl) (by (try simp only [List.length_map, List.length_nil, List.length_append, List.length_cons]); omega) (by (try simp only [List.length_map, List.length_nil, List.length_append, List.length_cons]); omega) (by omega) rfl rfl (fun v_34 w_34 hc_34 ho_34 ag_34 ob_34 => ?_)
          have o34 := ho_34 (.inr (Own.lit0 hb_31 (by omega)))
          have d_o34_b_2 := obNe ob_34 (fun k hk e => n_2__31.symm ((obLit hk).trans e)) hb_2.lt
          have d_o34_b_5 := obNe ob_34 (fun k hk e => n_5__31.symm ((obLit hk).trans e)) hb_5.lt
          have d_o34_b_8 := obNe ob_34 (fun k hk e => n_8__31.symm ((obLit hk).trans e)) hb_8.lt
          have dd_o34_o30 := obDD ob_34 (fun k hk h2 => d_o30_b_31 k h2 (obLit hk).symm) (fun k hk => (o30.ge k hk).2)
          have S := S.agrN ag_34 (fun k e => Nat.le_trans (by omega) e.2)
          have hb_2 := hb_2.step ag_34 (fun e => n_2__31.symm (obLit e.1))
          have S5 := S5.agrN ag_34 (fun k e => Nat.le_trans (by omega) e.2)
          have hb_5 := hb_5.step ag_34 (fun e => n_5__31.symm (obLit e.1))
          have szD := Nat.le_trans szD ag_34.size
          have hb_8 := hb_8.step ag_34 (fun e => n_8__31.symm (obLit e.1))
          have o30 := o30.step ag_34 (fun k hk e => (fun k hk h2 => d_o30_b_31 k h2 (obLit hk).symm) k e.1 hk)
          obtain ⟨a_34, c_34, rfl, k_34⟩ := o34.form
          refine RD.back (ag_34.mono fun k _ e => by have := e.2; omega) ?_
          refine RD.take 8 rfl (by kernel_rfl) (by kernel_rfl) (by kernel_rfl) (fun w' s' => .buildS ze25 pl25 rfl rfl) rfl rfl ?_
          refine RD.all [10] (by kernel_rfl) rfl (RDs.cons rfl ?_ (RDs.nil))
          refine RL.store sh25 rfl rfl rfl hb_8 (by exact Nat.le_of_ble_eq_true rfl) (by rfl) rfl (fun w27 z27 hb_8 a27 => ?_)
          have S := S.upd a27 ge_8
          have hb_2 := hb_2.upd a27 n_2__8
          have S5 := S5.upd a27 geS5_8
          have hb_5 := hb_5.upd a27 n_5__8
          have szD := Nat.le_trans szD a27.size
          have o30 := o30.updD a27 d_o30_b_8
          have o34 := o34.updD a27 d_o34_b_8
          refine RD.backW rfl (a27.mono fun k _ e => e ▸ (.inr fr_b_8)) ?_
          exact RD.done (by kernel_rfl) (fun a ka => ⟨(b_8, (a_30, c_30), (a_34, c_34)), ⟨n_2__8, n_5__8, by omega, hb_2, hb_5, hb_8, o30, o34, d_o30_b_8, d_o34_b_8, dd_o34_o30, S5, S⟩, ka.keep (keep_of (by repeat (first | exact trivial | refine And.intro rfl ?_)))⟩)
      ·
        refine RL.buildSlice0 sl23 rfl rfl (fun b_31 w_31 e_31 z_31 hb_31 s_31 => ?_)
        have fr_b_31 : w9.heap.size ≤ b_31 := by rw [e_31]; exact szD
        have ge_31 := S.le e_31
        have n_2__31 := hb_2.ne e_31
        have n_5__31 := hb_5.ne e_31
        have n_8__31 := hb_8.ne e_31
        have S := S.trans s_31
        have hb_2 := hb_2.sub s_31
        have geS5_31 := S5.le e_31
        have S5 := S5.trans s_31
        have hb_5 := hb_5.sub s_31
        have szD := Nat.le_trans szD s_31.size
        have hb_8 := hb_8.sub s_31
        refine RD.back s_31.agr ?_
        refine RD.all [0] (by kernel_rfl) rfl (RDs.cons rfl ?_ (RDs.nil))
        refine RL.buildSlice0 sl22 rfl rfl (fun b_27 w_27 e_27 z_27 hb_27 s_27 => ?_)
        have fr_b_27 : w9.heap.size ≤ b_27 := by rw [e_27]; exact szD
        have ge_27 := S.le e_27
        have n_2__27 := hb_2.ne e_27
        have n_5__27 := hb_5.ne e_27
        have n_8__27 := hb_8.ne e_27
        have n_31__27 := hb_31.ne e_27
        have S := S.trans s_27
        have hb_2 := hb_2.sub s_27
        have geS5_27 := S5.le e_27
        have S5 := S5.trans s_27
        have hb_5 := hb_5.sub s_27
        have szD := Nat.le_trans szD s_27.size
        have hb_8 := hb_8.sub s_27
        have hb_31 := hb_31.sub s_27
        refine RD.back s_27.agr ?_
        refine RD.all [3] (by kernel_rfl) rfl (RDs.cons rfl ?_ (RDs.nil))
        have sz_30 := S.size
        have ltb_2_30 := hb_2.lt
        have szS5_30 := S5.size
        have ltb_5_30 := hb_5.lt
        have ltb_8_30 := hb_8.lt
        have ltb_31_30 := hb_31.lt
        have ltb_27_30 := hb_27.lt
        refine RL.append2 (base := E) (rows := []) (news := (fewA A).nodes.map Node.cells) sl22 ze35 rfl rfl rfl rfl (.inl (Own.lit0 hb_27 (by omega))) (hAn.sub S) (by simp only [List.length_map]) (by intro r hr; obtain ⟨x, _, rfl⟩ := List.mem_map.1 hr; rfl) (by rw [List.all_eq_true]; intro r hr; obtain ⟨x, _, rfl⟩ := List.mem_map.1 hr; rfl) (by (try simp only [List.length_map, List.length_nil, List.length_append, List.length_cons]); omega) (by (try simp only [List.length_map, List.length_nil, List.length_append, List.length_cons]); omega) (by omega) rfl rfl (fun v_30 w_30 hc_30 ho_30 ag_30 ob_30 => ?_)
        have o30 := ho_30 (.inr (Own.lit0 hb_27 (by omega)))
        have d_o30_b_2 := obNe ob_30 (fun k hk e => n_2__27.symm ((obLit hk).trans e)) hb_2.lt
        have d_o30_b_5 := obNe ob_30 (fun k hk e => n_5__27.symm ((obLit hk).trans e)) hb_5.lt
        have d_o30_b_8 := obNe ob_30 (fun k hk e => n_8__27.symm ((obLit hk).trans e)) hb_8.lt
        have d_o30_b_31 := obNe ob_30 (fun k hk e => n_31__27.symm ((obLit hk).trans e)) hb_31.lt
        have S := S.agrN ag_30 (fun k e => Nat.le_trans (by omega) e.2)
        have hb_2 := hb_2.step ag_30 (fun e => n_2__27.symm (obLit e.1))
        have S5 := S5.agrN ag_30 (fun k e => Nat.le_trans (by omega) e.2)
        have hb_5 := hb_5.step ag_30 (fun e => n_5__27.symm (obLit e.1))
        have szD := Nat.le_trans szD ag_30.size
        have hb_8 := hb_8.step ag_30 (fun e => n_8__27.symm (obLit e.1))
        have hb_31 := hb_31.step ag_30 (fun e => n_31__27.symm (obLit e.1))
        obtain ⟨a_30, c_30, rfl, k_30⟩ := o30.form
        refine RD.back (ag_30.mono fun k _ e => by have := e.2; omega) ?_
        refine RD.all [7] (by kernel_rfl) rfl (RDs.cons rfl ?_ (RDs.nil))
        have sz_34 := S.size
        have ltb_2_34 := hb_2.lt
        have szS5_34 := S5.size
        have ltb_5_34 := hb_5.lt
        have ltb_8_34 := hb_8.lt
        have ltb_31_34 := hb_31.lt
        refine RL.append2 (base := E) (rows := []) (news := (fewA A).free.map fun x => [i6 x]) sl23 ze3 rfl rfl rfl rfl (.inl (Own.lit0 hb_31 (by omega))) (hAf.sub S) (by simp only [List.length_map]) (by intro r hr; obtain ⟨x, _, rfl⟩ := List.mem_map.1 hr; rfl) (by rw [List.all_eq_true]; intro r hr; obtain ⟨x, _, rfl⟩ := List.mem_map.1 hr; rfl) (by (try simp only [List.length_map, List.length_nil, List.length_append, List.length_cons]); omega) (by (try simp only [List.length_map, List.length_nil, List.length_append, List.length_cons]); omega) (by omega) rfl rfl (fun v_34 w_34 hc_34 ho_34 ag_34 ob_34 => ?_)
        have o34 := ho_34 (.inr (Own.lit0 hb_31 (by omega)))
        have d_o34_b_2 := obNe ob_34 (fun k hk e => n_2__31.symm ((obLit hk).trans e)) hb_2.lt
        have d_o34_b_5 := obNe ob_34 (fun k hk e => n_5__31.symm ((obLit hk).trans e)) hb_5.lt
        have d_o34_b_8 := obNe ob_34 (fun k hk e => n_8__31.symm ((obLit hk).trans e)) hb_8.lt
        have dd_o34_o30 := obDD ob_34 (fun k hk h2 => d_o30_b_31 k h2 (obLit hk).symm) (fun k hk => (o30.ge k hk).2)
        have S := S.agrN ag_34 (fun k e => Nat.le_trans (by omega) e.2)
        have hb_2 := hb_2.step ag_34 (fun e => n_2__31.symm (obLit e.1))
        have S5 := S5.agrN ag_34 (fun k e => Nat.le_trans (by omega) e.2)
        have hb_5 := hb_5.step ag_34 (fun e => n_5__31.symm (obLit e.1))
        have szD := Nat.le_trans szD ag_34.size
        have hb_8 := hb_8.step ag_34 (fun e => n_8__31.symm (obLit e.1))
        have o30 := o30.step ag_34 (fun k hk e => (fun k hk h2 => d_o30_b_31 k h2 (obLit hk).symm) k e.1 hk)
        obtain ⟨a_34, c_34, rfl, k_34⟩ := o34.form
        refine RD.back (ag_34.mono fun k _ e => by have := e.2; omega) ?_
        refine RD.take 8 rfl (by kernel_rfl) (by kernel_rfl) (by kernel_rfl) (fun w' s' => .buildS ze25 pl25 rfl rfl) rfl rfl ?_
        refine RD.all [10] (by kernel_rfl) rfl (RDs.cons rfl ?_ (RDs.nil))
        refine RL.store sh25 rfl rfl rfl hb_8 (by exact Nat.le_of_ble_eq_true rfl) (by rfl) rfl (fun w28 z28 hb_8 a28 => ?_)
        have S := S.upd a28 ge_8
        have hb_2 := hb_2.upd a28 n_2__8
        have S5 := S5.upd a28 geS5_8
        have hb_5 := hb_5.upd a28 n_5__8
        have szD := Nat.le_trans szD a28.size
        have o30 := o30.updD a28 d_o30_b_8
        have o34 := o34.updD a28 d_o34_b_8
        refine RD.backW rfl (a28.mono fun k _ e => e ▸ (.inr fr_b_8)) ?_
        exact RD.done (by kernel_rfl) (fun a ka => ⟨(b_8, (a_30, c_30), (a_34, c_34)), ⟨n_2__8, n_5__8, by omega, hb_2, hb_5, hb_8, o30, o34, d_o30_b_8, d_o34_b_8, dd_o34_o30, S5, S⟩, ka.keep (keep_of (by repeat (first | exact trivial | refine And.intro rfl ?_)))⟩)
  obtain ⟨b_8, ⟨a_30, c_30⟩, ⟨a_34, c_34⟩⟩ := m_
  obtain ⟨n_2__8, n_5__8, ge8, hb_2, hb_5, hb_8, o30, o34, q1, q2, q3, S5, S⟩ := hJ
  simp only [] at o30 o34 q1 q2 q3 hb_8 ge8 n_2__8 n_5__8
  have ge_8 : w.heap.size ≤ b_8 := (by omega)
  have geS5_8 : W5.heap.size ≤ b_8 := (by omega)
  refine RC.seq ?_
  refine RC.seq ?_
  refine RC.region rfl ?_
  refine RL.ev (.move rfl) rfl rfl ?_
  refine RL.ev (.len sl23 rfl) rfl rfl ?_
  refine RL.ev (.move rfl) rfl rfl ?_
  refine RL.nil (RC.back ?_)
  refine RC.block ?_
  refine RC.loop (α := Nat × Ar × Option Addr × Nat) (fun x => [(2, .pointer (some ⟨b_2, 0, none⟩)), (5, .pointer (some ⟨b_5, 0, none⟩)), (6, .int .i64 f), (7, .bool (aokB (fewA A))), (8, .pointer (some ⟨b_8, 0, none⟩)), (36, .slice pa (l.take 10).length pc), (37, .int .i64 ((l.take 10).length : Int)), (38, .int .i64 (x.1 : Int))]) (fun x w29 => (x.1 ≤ (l.take 10).length ∧ (AOk (fewA A) → AOk x.2.1) ∧ dropAll (fewA A) (l.take 10) = dropAll x.2.1 ((l.take 10).drop x.1) ∧ x.2.1.nodes.length = (fewA A).nodes.length ∧ x.2.1.free.length = (fewA A).free.length + x.1 ∧ (∀ y ∈ x.2.1.nodes, y.ok) ∧ (∀ y ∈ x.2.1.free, I64 y)) ∧ Has w29 b_2 [.slice na (fewA A).nodes.length nc, .slice fa (fewA A).free.length fc] 25 ∧ Has w29 b_5 [.slice nd' C.nodes.length ncd, .slice fd' C.free.length fcd] 25 ∧ Has w29 b_8 [.slice a_30 ((fewA A).nodes.map Node.cells).length c_30, .slice x.2.2.1 (x.2.1.free.map fun x => [i6 x]).length x.2.2.2] 25 ∧ Own E w29 35 16 (.slice a_30 ((fewA A).nodes.map Node.cells).length c_30) (x.2.1.nodes.map Node.cells) ∧ Own E w29 3 1 (.slice x.2.2.1 (x.2.1.free.map fun x => [i6 x]).length x.2.2.2) (x.2.1.free.map fun x => [i6 x]) ∧ (∀ k, ob (.slice x.2.2.1 (x.2.1.free.map fun x => [i6 x]).length x.2.2.2) = some k → k ≠ b_8) ∧ (∀ k, ob (.slice x.2.2.1 (x.2.1.free.map fun x => [i6 x]).length x.2.2.2) = some k → ob (.slice a_30 ((fewA A).nodes.map Node.cells).length c_30) = some k → False) ∧ Sub W5 w29 ∧ Sub w w29) (fun x => (l.take 10).length - x.1) (0, fewA A, a_34, c_34) (keep_of (by repeat (first | exact trivial | refine And.intro rfl ?_))) (⟨⟨Nat.zero_le _, id, rfl, rfl, rfl, hA'.nok, hA'.fok⟩, hb_2, hb_5, hb_8, o30, o34, q2, q3, S5, S⟩) (fun x w29 hJ => ?_)
  obtain ⟨i, Ai, a_u, c_u⟩ := x; obtain ⟨⟨hi, hoki, hd, hnl, hfl, hnk, hfk⟩, hb_2, hb_5, hb_8, o30, o34, q2, q3, S5, S⟩ := hJ; simp only [] at hi hoki hd hnl hfl hnk hfk hb_8 o30 o34 q2 q3
  refine RC.seq ?_
  refine RC.region rfl ?_
  refine RL.ev (.bin rfl rfl rfl) rfl rfl ?_
  refine RL.nil (RC.back ?_)
  refine RC.seq ?_
  refine RC.cond_dec rfl (fun h30 => ?_) (fun h30 => ?_)
  ·
    obtain ⟨p, hp⟩ := getSome (l := l.take 10) (i := i) (by omega)
    have hdc := dropAll_cons (A := Ai) hp
    have hpi := hli' p (List.mem_of_getElem? hp)
    refine RC.skip (RC.back ?_)
    refine RC.seq ?_
    refine RC.block ?_
    refine RC.seq ?_
    refine RC.region rfl ?_
    refine RL.ev (.indexS sl23 rfl rfl (by omega) (hs'.is (i := 0) (by simp only [List.length_map]; omega))) rfl rfl ?_
    refine RL.ev (.load1 sh3 rfl ((hs'.sub S).one (enc := i6) (i := i) hp)) rfl rfl ?_
    refine RL.ev (.assign rfl) rfl rfl ?_
    refine RL.nil (RC.back ?_)
    refine RC.seq ?_
    refine RC.seq ?_
    refine RC.region rfl ?_
    refine RL.ev (.move rfl) rfl rfl ?_
    refine RL.ev (.not rfl) rfl rfl ?_
    refine RL.ev (.move rfl) rfl rfl ?_
    refine RL.splitB 44 rfl (fun h31 => ?_) (fun h31 => ?_)
    ·
      have hnok : ¬ AOk (fewA A) := (fun h => by have h2 := h31; rw [aokB_yes h] at h2; cases h2)
      have hfe := drop_bad (.inl hnok) hf0 hf1
      refine RL.off rfl rfl ?_
      refine RL.off rfl rfl ?_
      refine RL.ev (.pick_t rfl rfl) rfl rfl ?_
      refine RL.ev (.move rfl) rfl rfl ?_
      refine RL.off rfl rfl ?_
      refine RL.off rfl rfl ?_
      refine RL.off rfl rfl ?_
      refine RL.off rfl rfl ?_
      refine RL.off rfl rfl ?_
      refine RL.ev (.pick_t rfl rfl) rfl rfl ?_
      refine RL.ev (.move rfl) rfl rfl ?_
      refine RL.off rfl rfl ?_
      refine RL.off rfl rfl ?_
      refine RL.off rfl rfl ?_
      refine RL.off rfl rfl ?_
      refine RL.off rfl rfl ?_
      refine RL.off rfl rfl ?_
      refine RL.off rfl rfl ?_
      refine RL.ev (.pick_t rfl rfl) rfl rfl ?_
      refine RL.nil (RC.back ?_)
      refine RC.cond_t rfl ?_
      refine RC.seq ?_
      refine RC.region rfl ?_
      refine RL.ev (.assign rfl) rfl rfl ?_
      refine RL.nil (RC.back ?_)
      refine RC.exit rfl (RC.back ?_)
      refine RC.seq ?_
      refine RC.seq ?_
      refine RC.region rfl ?_
      refine RL.ev (.move rfl) rfl rfl ?_
      refine RL.ev (.not rfl) rfl rfl ?_
      refine RL.nil (RC.back ?_)
      refine RC.cond_t rfl ?_
      refine RC.seq ?_
      refine RC.region rfl ?_
      refine RL.call rfl ok12 (c_alive4 w29) rfl rfl ?_
      rintro _ w32 ⟨rfl, s33⟩
      have S := S.trans s33
      have S5 := S5.trans s33
      have hb_2 := hb_2.sub s33
      have hb_5 := hb_5.sub s33
      have hb_8 := hb_8.sub s33
      have o30 := o30.sub s33
      have o34 := o34.sub s33
      refine RL.ev (.move rfl) rfl rfl ?_
      refine RL.ev (.move rfl) rfl rfl ?_
      refine RL.ev (.as (v' := .bool true) (.bin rfl rfl rfl) (congrArg Value.bool (decide_eq_true (hfe.2)))) rfl rfl ?_
      refine RL.ev (.pick_t rfl rfl) rfl rfl ?_
      refine RL.ev (.move rfl) rfl rfl ?_
      refine RL.ev (.field0 fo25_0 rfl) rfl rfl ?_
      refine RL.ev (.load1 sh22 rfl (hb_5.cell rfl)) rfl rfl ?_
      refine RL.ev (.len sl22 rfl) rfl rfl ?_
      refine RL.ev (.as (v' := .bool true) (.bin rfl rfl rfl) (congrArg Value.bool (decide_eq_true (by rw [hfe.1]; rfl)))) rfl rfl ?_
      refine RL.ev (.pick_t rfl rfl) rfl rfl ?_
      refine RL.ev (.assign rfl) rfl rfl ?_
      refine RL.nil (RC.back ?_)
      refine RC.done (rs := [.tmp 4]) (vs := [_]) rfl rfl ⟨rfl, trivial⟩ ?_
      -- end 1
      exact ⟨rfl, S⟩
    ·
      have hok : AOk (fewA A) := (aokB_iff _).1 (by simpa using h31)
      have hokA := hoki hok
      refine RL.ev (.move rfl) rfl rfl ?_
      refine RL.ev (.bin rfl rfl rfl) rfl rfl ?_
      refine RL.ev (.pick_f rfl rfl) rfl rfl ?_
      refine RL.ev (.move rfl) rfl rfl ?_
      refine RL.split 48 rfl (fun h34 => ?_) (fun h34 => ?_)
      ·
        have hfe := drop_bad (.inr (by rw [hd, hdc, dropStep_no (by omega)])) hf0 hf1
        refine RL.off rfl rfl ?_
        refine RL.off rfl rfl ?_
        refine RL.off rfl rfl ?_
        refine RL.off rfl rfl ?_
        refine RL.off rfl rfl ?_
        refine RL.ev (.pick_t rfl rfl) rfl rfl ?_
        refine RL.ev (.move rfl) rfl rfl ?_
        refine RL.off rfl rfl ?_
        refine RL.off rfl rfl ?_
        refine RL.off rfl rfl ?_
        refine RL.off rfl rfl ?_
        refine RL.off rfl rfl ?_
        refine RL.off rfl rfl ?_
        refine RL.off rfl rfl ?_
        refine RL.ev (.pick_t rfl rfl) rfl rfl ?_
        refine RL.nil (RC.back ?_)
        refine RC.cond_t rfl ?_
        refine RC.seq ?_
        refine RC.region rfl ?_
        refine RL.ev (.assign rfl) rfl rfl ?_
        refine RL.nil (RC.back ?_)
        refine RC.exit rfl (RC.back ?_)
        refine RC.seq ?_
        refine RC.seq ?_
        refine RC.region rfl ?_
        refine RL.ev (.move rfl) rfl rfl ?_
        refine RL.ev (.not rfl) rfl rfl ?_
        refine RL.nil (RC.back ?_)
        refine RC.cond_t rfl ?_
        refine RC.seq ?_
        refine RC.region rfl ?_
        refine RL.call rfl ok12 (c_alive4 w29) rfl rfl ?_
        rintro _ w35 ⟨rfl, s36⟩
        have S := S.trans s36
        have S5 := S5.trans s36
        have hb_2 := hb_2.sub s36
        have hb_5 := hb_5.sub s36
        have hb_8 := hb_8.sub s36
        have o30 := o30.sub s36
        have o34 := o34.sub s36
        refine RL.ev (.move rfl) rfl rfl ?_
        refine RL.ev (.move rfl) rfl rfl ?_
        refine RL.ev (.as (v' := .bool true) (.bin rfl rfl rfl) (congrArg Value.bool (decide_eq_true (hfe.2)))) rfl rfl ?_
        refine RL.ev (.pick_t rfl rfl) rfl rfl ?_
        refine RL.ev (.move rfl) rfl rfl ?_
        refine RL.ev (.field0 fo25_0 rfl) rfl rfl ?_
        refine RL.ev (.load1 sh22 rfl (hb_5.cell rfl)) rfl rfl ?_
        refine RL.ev (.len sl22 rfl) rfl rfl ?_
        refine RL.ev (.as (v' := .bool true) (.bin rfl rfl rfl) (congrArg Value.bool (decide_eq_true (by rw [hfe.1]; rfl)))) rfl rfl ?_
        refine RL.ev (.pick_t rfl rfl) rfl rfl ?_
        refine RL.ev (.assign rfl) rfl rfl ?_
        refine RL.nil (RC.back ?_)
        refine RC.done (rs := [.tmp 4]) (vs := [_]) rfl rfl ⟨rfl, trivial⟩ ?_
        -- end 2
        exact ⟨rfl, S⟩
      ·
        refine RL.ev (.move rfl) rfl rfl ?_
        refine RL.ev (.field0 fo25_0 rfl) rfl rfl ?_
        refine RL.ev (.load1 sh22 rfl (hb_8.cell rfl)) rfl rfl ?_
        refine RL.ev (.len sl22 rfl) rfl rfl ?_
        refine RL.ev (.bin rfl rfl rfl) rfl rfl ?_
        refine RL.ev (.pick_f rfl rfl) rfl rfl ?_
        refine RL.ev (.move rfl) rfl rfl ?_
        refine RL.split 55 rfl (fun h37 => ?_) (fun h37 => ?_)
        ·
          have hfe := drop_bad (.inr (by rw [hd, hdc, dropStep_no (by omega)])) hf0 hf1
          refine RL.off rfl rfl ?_
          refine RL.off rfl rfl ?_
          refine RL.off rfl rfl ?_
          refine RL.off rfl rfl ?_
          refine RL.off rfl rfl ?_
          refine RL.off rfl rfl ?_
          refine RL.off rfl rfl ?_
          refine RL.ev (.pick_t rfl rfl) rfl rfl ?_
          refine RL.nil (RC.back ?_)
          refine RC.cond_t rfl ?_
          refine RC.seq ?_
          refine RC.region rfl ?_
          refine RL.ev (.assign rfl) rfl rfl ?_
          refine RL.nil (RC.back ?_)
          refine RC.exit rfl (RC.back ?_)
          refine RC.seq ?_
          refine RC.seq ?_
          refine RC.region rfl ?_
          refine RL.ev (.move rfl) rfl rfl ?_
          refine RL.ev (.not rfl) rfl rfl ?_
          refine RL.nil (RC.back ?_)
          refine RC.cond_t rfl ?_
          refine RC.seq ?_
          refine RC.region rfl ?_
          refine RL.call rfl ok12 (c_alive4 w29) rfl rfl ?_
          rintro _ w38 ⟨rfl, s39⟩
          have S := S.trans s39
          have S5 := S5.trans s39
          have hb_2 := hb_2.sub s39
          have hb_5 := hb_5.sub s39
          have hb_8 := hb_8.sub s39
          have o30 := o30.sub s39
          have o34 := o34.sub s39
          refine RL.ev (.move rfl) rfl rfl ?_
          refine RL.ev (.move rfl) rfl rfl ?_
          refine RL.ev (.as (v' := .bool true) (.bin rfl rfl rfl) (congrArg Value.bool (decide_eq_true (hfe.2)))) rfl rfl ?_
          refine RL.ev (.pick_t rfl rfl) rfl rfl ?_
          refine RL.ev (.move rfl) rfl rfl ?_
          refine RL.ev (.field0 fo25_0 rfl) rfl rfl ?_
          refine RL.ev (.load1 sh22 rfl (hb_5.cell rfl)) rfl rfl ?_
          refine RL.ev (.len sl22 rfl) rfl rfl ?_
          refine RL.ev (.as (v' := .bool true) (.bin rfl rfl rfl) (congrArg Value.bool (decide_eq_true (by rw [hfe.1]; rfl)))) rfl rfl ?_
          refine RL.ev (.pick_t rfl rfl) rfl rfl ?_
          refine RL.ev (.assign rfl) rfl rfl ?_
          refine RL.nil (RC.back ?_)
          refine RC.done (rs := [.tmp 4]) (vs := [_]) rfl rfl ⟨rfl, trivial⟩ ?_
          -- end 3
          exact ⟨rfl, S⟩
        ·
          obtain ⟨y, hy⟩ := getSome (l := Ai.nodes) (i := p.toNat) (by omega)
          have hst0 := dropStep_at (A := Ai) (p := p) (by omega) hy
          have hwy := (well_iff y).1 (hokA.well y (List.mem_of_getElem? hy))
          refine RL.ev (.field0 fo25_0 rfl) rfl rfl ?_
          refine RL.ev (.load1 sh22 rfl (hb_8.cell rfl)) rfl rfl ?_
          refine RL.ev (.move rfl) rfl rfl ?_
          refine RL.ev (.indexS sl22 rfl rfl (by omega) (o30.sl.1.is (i := 0) (by simp only [List.length_map]; omega))) rfl rfl ?_
          refine RL.ev (.fieldA fo35_0 rfl) rfl rfl ?_
          refine RL.ev (.load1 sh3 rfl (o30.sl.1.cell (enc := Node.cells) (j := 0) hy rfl)) rfl rfl ?_
          refine RL.ev (.bin rfl rfl rfl) rfl rfl ?_
          refine RL.ev (.pick_f rfl rfl) rfl rfl ?_
          refine RL.nil (RC.back ?_)
          refine RC.cond_dec rfl (fun h40 => ?_) (fun h40 => ?_)
          ·
            have hfe := drop_bad (.inr (by rw [hd, hdc, hst0, if_pos h40])) hf0 hf1
            refine RC.seq ?_
            refine RC.region rfl ?_
            refine RL.ev (.assign rfl) rfl rfl ?_
            refine RL.nil (RC.back ?_)
            refine RC.exit rfl (RC.back ?_)
            refine RC.seq ?_
            refine RC.seq ?_
            refine RC.region rfl ?_
            refine RL.ev (.move rfl) rfl rfl ?_
            refine RL.ev (.not rfl) rfl rfl ?_
            refine RL.nil (RC.back ?_)
            refine RC.cond_t rfl ?_
            refine RC.seq ?_
            refine RC.region rfl ?_
            refine RL.call rfl ok12 (c_alive4 w29) rfl rfl ?_
            rintro _ w41 ⟨rfl, s42⟩
            have S := S.trans s42
            have S5 := S5.trans s42
            have hb_2 := hb_2.sub s42
            have hb_5 := hb_5.sub s42
            have hb_8 := hb_8.sub s42
            have o30 := o30.sub s42
            have o34 := o34.sub s42
            refine RL.ev (.move rfl) rfl rfl ?_
            refine RL.ev (.move rfl) rfl rfl ?_
            refine RL.ev (.as (v' := .bool true) (.bin rfl rfl rfl) (congrArg Value.bool (decide_eq_true (hfe.2)))) rfl rfl ?_
            refine RL.ev (.pick_t rfl rfl) rfl rfl ?_
            refine RL.ev (.move rfl) rfl rfl ?_
            refine RL.ev (.field0 fo25_0 rfl) rfl rfl ?_
            refine RL.ev (.load1 sh22 rfl (hb_5.cell rfl)) rfl rfl ?_
            refine RL.ev (.len sl22 rfl) rfl rfl ?_
            refine RL.ev (.as (v' := .bool true) (.bin rfl rfl rfl) (congrArg Value.bool (decide_eq_true (by rw [hfe.1]; rfl)))) rfl rfl ?_
            refine RL.ev (.pick_t rfl rfl) rfl rfl ?_
            refine RL.ev (.assign rfl) rfl rfl ?_
            refine RL.nil (RC.back ?_)
            refine RC.done (rs := [.tmp 4]) (vs := [_]) rfl rfl ⟨rfl, trivial⟩ ?_
            -- end 4
            exact ⟨rfl, S⟩
          ·
            rw [if_neg h40] at hst0
            have hst := hst0
            have hd2 : dropAll (fewA A) (l.take 10) = _ := hd.trans (hdc.trans (by rw [hst]))
            have hnk2 : ∀ z ∈ Ai.nodes.set p.toNat (bareN ((y.gen + 1) % 1048577)), z.ok := (fun z hz => (List.mem_or_eq_of_mem_set hz).elim (hnk z) (fun e => e ▸ bareN_ok (by unfold I64; omega)))
            have hfk2 : ∀ z ∈ Ai.free ++ [p], I64 z := (fun z hz => (List.mem_append.1 hz).elim (hfk z) (fun h => by rw [List.mem_singleton] at h; exact h ▸ hpi))
            obtain ⟨b_X, cap_X, ex_X, f_X, g_X, k_X, m_X, hb_X, l_X⟩ := o30.has (by rw [List.length_map]; omega)
            simp only [Value.slice.injEq] at f_X
            obtain ⟨rfl, hlen_X, rfl⟩ := f_X
            have ge_X : w.heap.size ≤ b_X := (by omega)
            have geS5_X : W5.heap.size ≤ b_X := (by omega)
            have nb_X_b_2 : b_X ≠ b_2 := by omega
            have nb_X_b_5 : b_X ≠ b_5 := by omega
            have nb_X_b_8 : b_X ≠ b_8 := by exact q1 _ rfl
            refine RC.skip (RC.back ?_)
            refine RC.seq ?_
            refine RC.region rfl ?_
            refine RL.ev (.field0 fo25_0 rfl) rfl rfl ?_
            refine RL.ev (.load1 sh22 rfl (hb_8.cell rfl)) rfl rfl ?_
            refine RL.ev (.move rfl) rfl rfl ?_
            refine RL.ev (.indexO sl22 rfl rfl (by omega)) rfl rfl ?_
            refine RL.ev (.field0 fo35_1 rfl) rfl rfl ?_
            refine RL.ev (.load1 sh3 rfl (hb_X.rowCell (j := 1) node_len hy rfl (by omega))) rfl rfl ?_
            refine RL.ev (.as (.bin rfl rfl rfl) (wi64 (y := y.gen + 1) (by rfl) (by omega))) rfl rfl ?_
            refine RL.ev (.assign rfl) rfl rfl ?_
            refine RL.nil (RC.back ?_)
            refine RC.seq ?_
            refine RC.seq ?_
            refine RC.region rfl ?_
            refine RL.ev (.move rfl) rfl rfl ?_
            refine RL.ev (.bin rfl rfl rfl) rfl rfl ?_
            refine RL.nil (RC.back ?_)
            refine RC.cond_dec rfl (fun h43 => ?_) (fun h43 => ?_)
            ·
              refine RC.region rfl ?_
              refine RL.ev (.assign rfl) rfl rfl ?_
              refine RL.nil (RC.back ?_)
              refine RC.seq ?_
              refine RC.region rfl ?_
              refine RL.ev (.field0 fo25_0 rfl) rfl rfl ?_
              refine RL.ev (.load1 sh22 rfl (hb_8.cell rfl)) rfl rfl ?_
              refine RL.ev (.move rfl) rfl rfl ?_
              refine RL.ev (.move rfl) rfl rfl ?_
              refine RL.ev (.as (v' := (bareN ((y.gen + 1) % 1048577)).val) (.buildS ze35 pl35 rfl rfl) (by have e : (y.gen + 1) % 1048577 = 0 := (by omega); rw [e]; rfl)) rfl rfl ?_
              refine RL.ev (.indexO sl22 rfl rfl (by omega)) rfl rfl ?_
              refine RL.store sh35 rfl rfl rfl hb_X (by rw [List.length_append, flat_len (sz := 16) _ (node_rows _), List.length_map]; show _ + 16 ≤ _; omega) (by rfl) rfl (fun w44 z44 hb_X a44 => ?_)
              have S := S.upd a44 ge_X
              have S5 := S5.upd a44 geS5_X
              have hb_2 := hb_2.upd a44 nb_X_b_2.symm
              have hb_5 := hb_5.upd a44 nb_X_b_5.symm
              have hb_8 := hb_8.upd a44 nb_X_b_8.symm
              have o34 := o34.updD a44 (fun k hk e => q3 k hk (by rw [e]; rfl))
              rw [Nat.zero_add] at hb_X
              have hb_X := Has.row_set (r := (bareN ((y.gen + 1) % 1048577)).cells) hb_X (node_rows _) (by rw [List.length_map]; omega) rfl
              rw [← List.map_set] at hb_X
              refine RL.nil (RC.back ?_)
              refine RC.region rfl ?_
              refine RL.ev (.field0 fo25_1 rfl) rfl rfl ?_
              refine RL.ev (.load1 sh23 rfl (hb_8.cell rfl)) rfl rfl ?_
              refine RL.ev (.move rfl) rfl rfl ?_
              refine RL.buildSlice1 sl23 _ ze3 rfl rfl rfl rfl rfl rfl rfl (fun b_82 w_82 e_82 z_82 hb_82 s_82 => ?_)
              have ge_82 := S.le e_82
              have n_2__82 := hb_2.ne e_82
              have n_5__82 := hb_5.ne e_82
              have n_8__82 := hb_8.ne e_82
              have n_X__82 := hb_X.ne e_82
              have d_o34_b_82 := o34.neNew e_82
              have S := S.trans s_82
              have geS5_82 := S5.le e_82
              have S5 := S5.trans s_82
              have hb_2 := hb_2.sub s_82
              have hb_5 := hb_5.sub s_82
              have hb_8 := hb_8.sub s_82
              have o34 := o34.sub s_82
              have hb_X := hb_X.sub s_82
              have sz_83 := S.size
              have szS5_83 := S5.size
              have ltb_2_83 := hb_2.lt
              have ltb_5_83 := hb_5.lt
              have ltb_8_83 := hb_8.lt
              have ltb_X_83 := hb_X.lt
              have ltb_82_83 := hb_82.lt
              refine RL.append2 (base := E) (rows := Ai.free.map fun x => [i6 x]) (news := [_]) sl23 ze3 rfl rfl rfl rfl (.inl o34) (Has.slOne hb_82) rfl (by intro r hr; rw [List.mem_singleton] at hr; subst hr; rfl) rfl (by (try simp only [List.length_map, List.length_nil, List.length_append, List.length_cons]); omega) (by (try simp only [List.length_map, List.length_nil, List.length_append, List.length_cons]); omega) (by omega) rfl rfl (fun v_83 w_83 hc_83 ho_83 ag_83 ob_83 => ?_)
              have o83 := ho_83 (.inl (by simp))
              have d_o83_b_2 := obNe ob_83 (fun k hk e => absurd (o34.ge k hk).1 (by omega)) hb_2.lt
              have d_o83_b_5 := obNe ob_83 (fun k hk e => absurd (o34.ge k hk).1 (by omega)) hb_5.lt
              have d_o83_b_8 := obNe ob_83 q2 hb_8.lt
              have d_o83_b_X := obNe ob_83 (fun k hk e => q3 k hk (by rw [e]; rfl)) hb_X.lt
              have S := S.agrN ag_83 (fun k e => Nat.le_trans (by omega) e.2)
              have S5 := S5.agrN ag_83 (fun k e => Nat.le_trans (by omega) e.2)
              have hb_2 := hb_2.step ag_83 (fun e => absurd e.2 (by omega))
              have hb_5 := hb_5.step ag_83 (fun e => absurd e.2 (by omega))
              have hb_8 := hb_8.step ag_83 (fun e => q2 _ e.1 rfl)
              have hb_X := hb_X.step ag_83 (fun e => q3 _ e.1 rfl)
              obtain ⟨a_83, c_83, rfl, k_83⟩ := o83.form
              refine RL.ev (.field0 fo25_1 rfl) rfl rfl ?_
              refine RL.store sh23 rfl rfl rfl hb_8 (by exact Nat.le_of_ble_eq_true rfl) (by rfl) rfl (fun w45 z45 hb_8 a45 => ?_)
              have S := S.upd a45 ge_8
              have S5 := S5.upd a45 geS5_8
              have hb_2 := hb_2.upd a45 n_2__8
              have hb_5 := hb_5.upd a45 n_5__8
              have hb_X := hb_X.upd a45 nb_X_b_8
              have o83 := o83.updD a45 d_o83_b_8
              refine RL.nil (RC.back ?_)
              refine RC.region rfl ?_
              refine RL.ev (.as (.bin rfl rfl rfl) (wi64 (y := ((i + 1 : Nat) : Int)) (by omega) (by omega))) rfl rfl ?_
              refine RL.ev (.move rfl) rfl rfl ?_
              exact RL.nil (fun a ka => ⟨(i + 1, ⟨Ai.nodes.set p.toNat (bareN ((y.gen + 1) % 1048577)), Ai.free ++ [p]⟩, a_83, c_83), ⟨⟨by omega, fun h => dropStep_ok (hoki h) hst, hd2, by simpa using hnl, by simp only [List.length_append, List.length_singleton]; omega, hnk2, hfk2⟩, hb_2, hb_5, by rw [List.map_append]; exact hb_8, by rw [List.map_set]; exact Own.set_row (by rw [← List.map_set]; exact hb_X) (node_rows _) rfl g_X hlen_X k_X m_X l_X, by rw [List.map_append]; exact o83, by rw [List.map_append]; exact d_o83_b_8, by rw [List.map_append]; exact fun k hk h2 => d_o83_b_X k hk (obLit h2).symm, S5, S⟩, by omega, ka.keep (keep_of (by repeat (first | exact trivial | refine And.intro rfl ?_)))⟩)
            ·
              refine RC.skip (RC.back ?_)
              refine RC.seq ?_
              refine RC.region rfl ?_
              refine RL.ev (.field0 fo25_0 rfl) rfl rfl ?_
              refine RL.ev (.load1 sh22 rfl (hb_8.cell rfl)) rfl rfl ?_
              refine RL.ev (.move rfl) rfl rfl ?_
              refine RL.ev (.move rfl) rfl rfl ?_
              refine RL.ev (.as (v' := (bareN ((y.gen + 1) % 1048577)).val) (.buildS ze35 pl35 rfl rfl) (by have e : (y.gen + 1) % 1048577 = y.gen + 1 := (by omega); rw [e]; rfl)) rfl rfl ?_
              refine RL.ev (.indexO sl22 rfl rfl (by omega)) rfl rfl ?_
              refine RL.store sh35 rfl rfl rfl hb_X (by rw [List.length_append, flat_len (sz := 16) _ (node_rows _), List.length_map]; show _ + 16 ≤ _; omega) (by rfl) rfl (fun w46 z46 hb_X a46 => ?_)
              have S := S.upd a46 ge_X
              have S5 := S5.upd a46 geS5_X
              have hb_2 := hb_2.upd a46 nb_X_b_2.symm
              have hb_5 := hb_5.upd a46 nb_X_b_5.symm
              have hb_8 := hb_8.upd a46 nb_X_b_8.symm
              have o34 := o34.updD a46 (fun k hk e => q3 k hk (by rw [e]; rfl))
              rw [Nat.zero_add] at hb_X
              have hb_X := Has.row_set (r := (bareN ((y.gen + 1) % 1048577)).cells) hb_X (node_rows _) (by rw [List.length_map]; omega) rfl
              rw [← List.map_set] at hb_X
              refine RL.nil (RC.back ?_)
              refine RC.region rfl ?_
              refine RL.ev (.field0 fo25_1 rfl) rfl rfl ?_
              refine RL.ev (.load1 sh23 rfl (hb_8.cell rfl)) rfl rfl ?_
              refine RL.ev (.move rfl) rfl rfl ?_
              refine RL.buildSlice1 sl23 _ ze3 rfl rfl rfl rfl rfl rfl rfl (fun b_82 w_82 e_82 z_82 hb_82 s_82 => ?_)
              have ge_82 := S.le e_82
              have n_2__82 := hb_2.ne e_82
              have n_5__82 := hb_5.ne e_82
              have n_8__82 := hb_8.ne e_82
              have n_X__82 := hb_X.ne e_82
              have d_o34_b_82 := o34.neNew e_82
              have S := S.trans s_82
              have geS5_82 := S5.le e_82
              have S5 := S5.trans s_82
              have hb_2 := hb_2.sub s_82
              have hb_5 := hb_5.sub s_82
              have hb_8 := hb_8.sub s_82
              have o34 := o34.sub s_82
              have hb_X := hb_X.sub s_82
              have sz_83 := S.size
              have szS5_83 := S5.size
              have ltb_2_83 := hb_2.lt
              have ltb_5_83 := hb_5.lt
              have ltb_8_83 := hb_8.lt
              have ltb_X_83 := hb_X.lt
              have ltb_82_83 := hb_82.lt
              refine RL.append2 (base := E) (rows := Ai.free.map fun x => [i6 x]) (news := [_]) sl23 ze3 rfl rfl rfl rfl (.inl o34) (Has.slOne hb_82) rfl (by intro r hr; rw [List.mem_singleton] at hr; subst hr; rfl) rfl (by (try simp only [List.length_map, List.length_nil, List.length_append, List.length_cons]); omega) (by (try simp only [List.length_map, List.length_nil, List.length_append, List.length_cons]); omega) (by omega) rfl rfl (fun v_83 w_83 hc_83 ho_83 ag_83 ob_83 => ?_)
              have o83 := ho_83 (.inl (by simp))
              have d_o83_b_2 := obNe ob_83 (fun k hk e => absurd (o34.ge k hk).1 (by omega)) hb_2.lt
              have d_o83_b_5 := obNe ob_83 (fun k hk e => absurd (o34.ge k hk).1 (by omega)) hb_5.lt
              have d_o83_b_8 := obNe ob_83 q2 hb_8.lt
              have d_o83_b_X := obNe ob_83 (fun k hk e => q3 k hk (by rw [e]; rfl)) hb_X.lt
              have S := S.agrN ag_83 (fun k e => Nat.le_trans (by omega) e.2)
              have S5 := S5.agrN ag_83 (fun k e => Nat.le_trans (by omega) e.2)
              have hb_2 := hb_2.step ag_83 (fun e => absurd e.2 (by omega))
              have hb_5 := hb_5.step ag_83 (fun e => absurd e.2 (by omega))
              have hb_8 := hb_8.step ag_83 (fun e => q2 _ e.1 rfl)
              have hb_X := hb_X.step ag_83 (fun e => q3 _ e.1 rfl)
              obtain ⟨a_83, c_83, rfl, k_83⟩ := o83.form
              refine RL.ev (.field0 fo25_1 rfl) rfl rfl ?_
              refine RL.store sh23 rfl rfl rfl hb_8 (by exact Nat.le_of_ble_eq_true rfl) (by rfl) rfl (fun w47 z47 hb_8 a47 => ?_)
              have S := S.upd a47 ge_8
              have S5 := S5.upd a47 geS5_8
              have hb_2 := hb_2.upd a47 n_2__8
              have hb_5 := hb_5.upd a47 n_5__8
              have hb_X := hb_X.upd a47 nb_X_b_8
              have o83 := o83.updD a47 d_o83_b_8
              refine RL.nil (RC.back ?_)
              refine RC.region rfl ?_
              refine RL.ev (.as (.bin rfl rfl rfl) (wi64 (y := ((i + 1 : Nat) : Int)) (by omega) (by omega))) rfl rfl ?_
              refine RL.ev (.move rfl) rfl rfl ?_
              exact RL.nil (fun a ka => ⟨(i + 1, ⟨Ai.nodes.set p.toNat (bareN ((y.gen + 1) % 1048577)), Ai.free ++ [p]⟩, a_83, c_83), ⟨⟨by omega, fun h => dropStep_ok (hoki h) hst, hd2, by simpa using hnl, by simp only [List.length_append, List.length_singleton]; omega, hnk2, hfk2⟩, hb_2, hb_5, by rw [List.map_append]; exact hb_8, by rw [List.map_set]; exact Own.set_row (by rw [← List.map_set]; exact hb_X) (node_rows _) rfl g_X hlen_X k_X m_X l_X, by rw [List.map_append]; exact o83, by rw [List.map_append]; exact d_o83_b_8, by rw [List.map_append]; exact fun k hk h2 => d_o83_b_X k hk (obLit h2).symm, S5, S⟩, by omega, ka.keep (keep_of (by repeat (first | exact trivial | refine And.intro rfl ?_)))⟩)
  ·
    obtain rfl : i = (l.take 10).length := (by omega)
    rw [List.drop_length] at hd
    refine RC.exit rfl (RC.back ?_)
    refine RC.seq ?_
    refine RC.seq ?_
    refine RC.region rfl ?_
    refine RL.ev (.move rfl) rfl rfl ?_
    refine RL.ev (.not rfl) rfl rfl ?_
    refine RL.nil (RC.back ?_)
    refine RC.cond rfl (fun h48 => ?_) (fun h48 => ?_)
    ·
      have hnok : ¬ AOk (fewA A) := (fun h => by have h2 := h48; rw [aokB_yes h] at h2; cases h2)
      have hfe := drop_bad (.inl hnok) hf0 hf1
      refine RC.seq ?_
      refine RC.region rfl ?_
      refine RL.call rfl ok12 (c_alive4 w29) rfl rfl ?_
      rintro _ w49 ⟨rfl, s50⟩
      have S := S.trans s50
      have S5 := S5.trans s50
      have hb_2 := hb_2.sub s50
      have hb_5 := hb_5.sub s50
      have hb_8 := hb_8.sub s50
      have o30 := o30.sub s50
      have o34 := o34.sub s50
      refine RL.ev (.move rfl) rfl rfl ?_
      refine RL.ev (.move rfl) rfl rfl ?_
      refine RL.ev (.as (v' := .bool true) (.bin rfl rfl rfl) (congrArg Value.bool (decide_eq_true (hfe.2)))) rfl rfl ?_
      refine RL.ev (.pick_t rfl rfl) rfl rfl ?_
      refine RL.ev (.move rfl) rfl rfl ?_
      refine RL.ev (.field0 fo25_0 rfl) rfl rfl ?_
      refine RL.ev (.load1 sh22 rfl (hb_5.cell rfl)) rfl rfl ?_
      refine RL.ev (.len sl22 rfl) rfl rfl ?_
      refine RL.ev (.as (v' := .bool true) (.bin rfl rfl rfl) (congrArg Value.bool (decide_eq_true (by rw [hfe.1]; rfl)))) rfl rfl ?_
      refine RL.ev (.pick_t rfl rfl) rfl rfl ?_
      refine RL.ev (.assign rfl) rfl rfl ?_
      refine RL.nil (RC.back ?_)
      refine RC.done (rs := [.tmp 4]) (vs := [_]) rfl rfl ⟨rfl, trivial⟩ ?_
      -- end 5
      exact ⟨rfl, S⟩
    ·
      have hok : AOk (fewA A) := (aokB_iff _).1 (by simpa using h48)
      have hfe := drop_good hok hd hf0 hf1
      refine RC.skip (RC.back ?_)
      refine RC.seq ?_
      refine RC.region rfl ?_
      refine RL.call rfl ok12 (c_alive4 w29) rfl rfl ?_
      rintro _ w51 ⟨rfl, s52⟩
      have S := S.trans s52
      have S5 := S5.trans s52
      have hb_2 := hb_2.sub s52
      have hb_5 := hb_5.sub s52
      have hb_8 := hb_8.sub s52
      have o30 := o30.sub s52
      have o34 := o34.sub s52
      refine RL.ev (.move rfl) rfl rfl ?_
      refine RL.ev (.move rfl) rfl rfl ?_
      refine RL.ev (.as (v' := .bool true) (.bin rfl rfl rfl) (congrArg Value.bool (decide_eq_true (hfe.1)))) rfl rfl ?_
      refine RL.ev (.pick_t rfl rfl) rfl rfl ?_
      refine RL.ev (.move rfl) rfl rfl ?_
      refine RL.ev (.loadR (_) sh25 rfl hb_5.row rfl) rfl rfl ?_
      refine RL.ev (.as (v' := arV a_30 a_u c_30 c_u Ai) (.loadR ([.slice a_30 ((fewA A).nodes.map Node.cells).length c_30, .slice a_u (Ai.free.map fun x => [i6 x]).length c_u]) sh25 rfl hb_8.row rfl) (by rw [arV, List.length_map, List.length_map, hnl])) rfl rfl ?_
      refine RL.call rfl ok13 ((likeB_eq hfe.2 ▸ c_r4Like C Ai nd' fd' ncd fcd a_30 a_u c_30 c_u w51 (hC.sub S5) ⟨o30.sl.1, o34.sl.1, hnk, hfk⟩ (by rw [hfe.2]; omega) (by rw [hfe.2]; omega))) rfl rfl ?_
      rintro _ w53 ⟨rfl, s54⟩
      have S := S.trans s54
      have S5 := S5.trans s54
      have hb_2 := hb_2.sub s54
      have hb_5 := hb_5.sub s54
      have hb_8 := hb_8.sub s54
      have o30 := o30.sub s54
      have o34 := o34.sub s54
      refine RL.ev (.pick_t rfl rfl) rfl rfl ?_
      refine RL.ev (.move rfl) rfl rfl ?_
      refine RL.ev (.loadR (_) sh25 rfl hb_5.row rfl) rfl rfl ?_
      refine RL.call rfl ok14 ((aokB_yes (hfe.2.symm ▸ dropAll_ok _ hok hd) ▸ c_aRight C nd' fd' ncd fcd w53 (hC.sub S5))) rfl rfl ?_
      rintro _ w55 ⟨rfl, s56⟩
      have S := S.trans s56
      have S5 := S5.trans s56
      have hb_2 := hb_2.sub s56
      have hb_5 := hb_5.sub s56
      have hb_8 := hb_8.sub s56
      have o30 := o30.sub s56
      have o34 := o34.sub s56
      refine RL.ev (.pick_t rfl rfl) rfl rfl ?_
      refine RL.ev (.assign rfl) rfl rfl ?_
      refine RL.nil (RC.back ?_)
      refine RC.done (rs := [.tmp 4]) (vs := [_]) rfl rfl ⟨rfl, trivial⟩ ?_
      -- end 6
      exact ⟨rfl, S⟩
end Go.Proofs.Ytfcmbojlflgpmaa
