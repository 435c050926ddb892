/-
  What the law HamtMakes leans on, part 5.
-/
import Derived.Test.YtbfjobmebkhblaaPHamtMakes4
set_option linter.unusedVariables false
set_option linter.unusedSimpArgs false
namespace Go.Proofs.Ytbfjobmebkhblaa
open Go Go.XL
theorem fit_10 {l : List It} (h : ∀ x ∈ l, shL x.k l ≤ 9) : FitH 10 l := fit_of (Nat.le_refl _) (fam_0 l) h
set_option maxHeartbeats 1000000 in
theorem c_build9 (size : Nat) (l : List It) (a : Option Addr) (c m : Nat) (hm : m = l.length) (hap : Ap l) (hfit : ∀ x ∈ l, shL x.k l ≤ 9) (hok : ∀ z ∈ l, z.ok) (h : cnt 10 l ≤ size) (h1 : 1 ≤ size) (h2 : size ≤ 1000000) (hl6 : l.length ≤ 1000000) (w : World) (hl : Sl w a 2 (l.map It.cells)) :
    FC Try.prog 18 [.int .i64 (size : Int), .slice a m c] w (fun v w' => ∃ B r na fa nc fc, v = .tuple #[arV na fa nc fc B, .int .u64 r] ∧ BldH size l B r ∧ B.nodes.length ≤ nc ∧ B.free.length ≤ fc ∧ (∀ N : Nat → Prop, (∀ k, N k → k < w.heap.size) → Imm N (fun u => ArR u na fa B) w') ∧ Sub w w') := by
  subst hm
  refine FC.intro Try.func18 rfl Try.ntmps18 rfl ?_
  have S := Sub.refl w
  refine RC.seq ?_
  refine RC.region rfl ?_
  refine RL.alloc ze34 rfl rfl (fun b_4 w_4 e_4 z_4 hb_4 s_4 => ?_)
  have ge_4 := S.le e_4
  have S := S.trans s_4
  refine RL.ev (.assign rfl) rfl rfl ?_
  refine RL.nil (RC.back ?_)
  refine RC.seq ?_
  refine RC.region rfl ?_
  refine RL.ev (.move rfl) rfl rfl ?_
  refine RL.makeSlice sl31 ze97 rfl rfl rfl rfl (by omega) rfl rfl (fun b_10 w_10 e_10 z_10 hb_10 s_10 => ?_)
  have ge_10 := S.le e_10
  have n_4__10 := hb_4.ne e_10
  have S := S.trans s_10
  have hb_4 := hb_4.sub s_10
  have hb_10 : Has w_10 b_10 (nodeL (List.replicate size (bareN 0))) 97 := by have := hb_10; rw [Int.toNat_natCast] at this; rw [nodeL, List.map_replicate]; exact this
  refine RL.ev (.buildS ze34 pl34 rfl rfl) rfl rfl ?_
  refine RL.alloc ze34 rfl rfl (fun b_6 w_6 e_6 z_6 hb_6 s_6 => ?_)
  have ge_6 := S.le e_6
  have n_4__6 := hb_4.ne e_6
  have n_10__6 := hb_10.ne e_6
  have S := S.trans s_6
  have hb_4 := hb_4.sub s_6
  have hb_10 := hb_10.sub s_6
  refine RL.store sh34 rfl rfl rfl hb_6 (by exact Nat.le_of_ble_eq_true rfl) (by rfl) rfl (fun w1 z1 hb_6 a1 => ?_)
  have S := S.upd a1 ge_6
  have hb_4 := hb_4.upd a1 n_4__6
  have hb_10 := hb_10.upd a1 n_10__6
  have hb_6 : Has w1 b_6 ([.slice (some ⟨b_10, 0, none⟩) size size, .slice none 0 0]) _ := hb_6.now (by kernel_rfl)
  refine RL.nil (RC.back ?_)
  refine RC.seq ?_
  refine RC.region rfl ?_
  refine RL.ev (.loadR ([.slice (some ⟨b_10, 0, none⟩) size size, .slice none 0 0]) sh34 rfl hb_6.row rfl) rfl rfl ?_
  refine RL.ev (.as (v' := .agg (tyC b_10 size size (0 : Nat) 0).toArray) (.buildS ze80 pl80 rfl rfl) (by rfl)) rfl rfl ?_
  refine RL.ev (.move rfl) rfl rfl ?_
  refine RL.call rfl ok45 (c_layH b_10 size size h2 10 0 (Nat.le_refl _) rfl (List.replicate size (bareN 0)) 0 0 l _ a c l.length w1 hap (fit_10 hfit) rfl hl6 (by rw [List.length_replicate]; omega) List.length_replicate ((Ft.of_sub (fun u s => hl.sub s)).sub S) (fun k hk e => by omega) hb_10) rfl rfl ?_
  rintro vL w2 ⟨ns, r, hv, hLy, ag1, hN1⟩
  have S := S.upd ag1 ge_10
  have hb_4 := hb_4.upd ag1 n_4__10
  have hb_6 := hb_6.upd ag1 n_10__6.symm
  rw [Nat.zero_add] at hv
  subst hv
  have hb_10 := hN1
  have hB := bld_ok h h2 hLy
  refine RL.alloc ze80 rfl rfl (fun b_7 w_7 e_7 z_7 hb_7 s_7 => ?_)
  have ge_7 := S.le e_7
  have n_4__7 := hb_4.ne e_7
  have n_10__7 := hb_10.ne e_7
  have n_6__7 := hb_6.ne e_7
  have S := S.trans s_7
  have hb_4 := hb_4.sub s_7
  have hb_10 := hb_10.sub s_7
  have hb_6 := hb_6.sub s_7
  refine RL.store sh80 rfl rfl rfl hb_7 (by exact Nat.le_of_ble_eq_true rfl) (by rfl) rfl (fun w4 z4 hb_7 a4 => ?_)
  have S := S.upd a4 ge_7
  have hb_4 := hb_4.upd a4 n_4__7
  have hb_10 := hb_10.upd a4 n_10__7
  have hb_6 := hb_6.upd a4 n_6__7
  have hb_7 : Has w4 b_7 (tyC b_10 size size (cnt 10 l : Nat) r) _ := hb_7.now (by kernel_rfl)
  refine RL.nil (RC.back ?_)
  refine RC.seq ?_
  refine RC.seq ?_
  refine RC.region rfl ?_
  refine RL.ev (.move rfl) rfl rfl ?_
  refine RL.ev (.as (.bin rfl rfl rfl) (wi64 (y := (size : Int) - 1 - ((0 : Nat) : Int)) (by omega) (by omega))) rfl rfl ?_
  refine RL.ev (.assign rfl) rfl rfl ?_
  obtain ⟨E, hE⟩ : ∃ E, E = w4.heap.size := ⟨_, rfl⟩
  have lt4 := hb_4.lt
  have lt7 := hb_7.lt
  have lt10 := hb_10.lt
  have szS := S.size
  rw [← hE] at lt4 lt7 lt10 szS
  refine RL.nil (RC.back ?_)
  refine RC.block ?_
  refine RC.loop (α := Nat × Option Addr × Nat × Nat) (fun x => [(1, .slice a l.length c), (4, .pointer (some ⟨b_4, 0, none⟩)), (5, .int .u64 0), (7, .pointer (some ⟨b_7, 0, none⟩)), (8, .int .i64 ((size : Int) - 1 - (x.1 : Int)))]) (fun x w5 => x.1 ≤ size - cnt 10 l ∧ Ows E w5 3 1 (.slice x.2.1 x.2.2.1 x.2.2.2) ((freeB size x.1).map fun x => [i6 x]) ∧ Has w5 b_4 [.slice none 0 0, .slice none 0 0] 34 ∧ Has w5 b_7 [.slice (some ⟨b_10, 0, none⟩) size size, .slice x.2.1 x.2.2.1 x.2.2.2, .int .i64 (cnt 10 l : Nat), .int .u64 r] 80 ∧ Has w5 b_10 (nodeL ns) 97 ∧ E ≤ w5.heap.size ∧ Sub w w5) (fun x => size - cnt 10 l - x.1) (0, none, 0, 0) (keep_of (by repeat (first | exact trivial | refine And.intro rfl ?_))) (⟨Nat.zero_le _, Ows.nil _ _ _ _, hb_4, hb_7, hb_10, by omega, S⟩) (fun x w5 hJ => ?_)
  obtain ⟨i, a_u, m_u, c_u⟩ := x; obtain ⟨hi, o, hb_4, hb_7, hb_10, szB, S⟩ := hJ; simp only [] at hi o hb_7; obtain rfl := o.sl.2; have hfl := freeB_len size i
  refine RC.seq ?_
  refine RC.seq ?_
  refine RC.region rfl ?_
  refine RL.ev (.move rfl) rfl rfl ?_
  refine RL.ev (.field0 fo80_1 rfl) rfl rfl ?_
  refine RL.ev (.load1 sh3 rfl (hb_7.cell rfl)) rfl rfl ?_
  refine RL.ev (.bin rfl rfl rfl) rfl rfl ?_
  refine RL.nil (RC.back ?_)
  refine RC.cond_dec rfl (fun h6 => ?_) (fun h6 => ?_)
  ·
    have d4 : ∀ k, ob (.slice a_u ((freeB size i).map fun x => [i6 x]).length c_u) = some k → k ≠ b_4 := fun k hk e => absurd (o.ge k hk).1 (by omega)
    have d7 : ∀ k, ob (.slice a_u ((freeB size i).map fun x => [i6 x]).length c_u) = some k → k ≠ b_7 := fun k hk e => absurd (o.ge k hk).1 (by omega)
    have d10 : ∀ k, ob (.slice a_u ((freeB size i).map fun x => [i6 x]).length c_u) = some k → k ≠ b_10 := fun k hk e => absurd (o.ge k hk).1 (by omega)
    refine RC.skip (RC.back ?_)
    refine RC.seq ?_
    refine RC.block ?_
    refine RC.region rfl ?_
    refine RL.ev (.field0 fo80_0 rfl) rfl rfl ?_
    refine RL.ev (.field0 fo34_1 rfl) rfl rfl ?_
    refine RL.ev (.load1 sh32 rfl (hb_7.cell rfl)) rfl rfl ?_
    refine RL.ev (.move rfl) rfl rfl ?_
    refine RL.buildSlice1 sl32 _ ze3 rfl rfl rfl rfl rfl rfl rfl (fun b_28 w_28 e_28 z_28 hb_28 s_28 => ?_)
    have ge_28 := S.le e_28
    have n_4__28 := hb_4.ne e_28
    have n_7__28 := hb_7.ne e_28
    have n_10__28 := hb_10.ne e_28
    have d_o_b_28 := o.neNew e_28
    have S := S.trans s_28
    have hb_4 := hb_4.sub s_28
    have hb_7 := hb_7.sub s_28
    have hb_10 := hb_10.sub s_28
    have szB := Nat.le_trans szB s_28.size
    have o := o.sub s_28
    have sz_29 := S.size
    have ltb_4_29 := hb_4.lt
    have ltb_7_29 := hb_7.lt
    have ltb_10_29 := hb_10.lt
    have ltb_28_29 := hb_28.lt
    refine RL.append2 (base := E) (rows := (freeB size i).map fun x => [i6 x]) (news := [_]) sl32 ze3 rfl rfl rfl rfl (.inl o) (Has.slOne hb_28) rfl (by intro r hr; rw [List.mem_singleton] at hr; subst hr; rfl) rfl (by (try simp only [List.length_map, List.length_nil, List.length_append, List.length_cons]); omega) (by (try simp only [List.length_map, List.length_nil, List.length_append, List.length_cons]); omega) (by omega) rfl rfl (fun v_29 w_29 hc_29 ho_29 ag_29 ob_29 => ?_)
    have o29 := ho_29 (.inl (by simp))
    rw [show _ ++ [_] = ((freeB size i ++ [(size : Int) - 1 - (i : Int)]).map fun x => [i6 x]) from by rw [List.map_append]; rfl] at o29
    have d_o29_b_4 := obNe ob_29 d4 hb_4.lt
    have d_o29_b_7 := obNe ob_29 d7 hb_7.lt
    have d_o29_b_10 := obNe ob_29 d10 hb_10.lt
    have S := S.agrN ag_29 (fun k e => Nat.le_trans (by omega) e.2)
    have hb_4 := hb_4.step ag_29 (fun e => d4 _ e.1 rfl)
    have hb_7 := hb_7.step ag_29 (fun e => d7 _ e.1 rfl)
    have hb_10 := hb_10.step ag_29 (fun e => d10 _ e.1 rfl)
    have szB := Nat.le_trans szB ag_29.size
    obtain ⟨a_29, c_29, rfl, k_29⟩ := o29.form
    refine RL.ev (.field0 fo80_0 rfl) rfl rfl ?_
    refine RL.ev (.field0 fo34_1 rfl) rfl rfl ?_
    refine RL.store sh32 rfl rfl rfl hb_7 (by exact Nat.le_of_ble_eq_true rfl) (by rfl) rfl (fun w7 z7 hb_7 a7 => ?_)
    have S := S.upd a7 ge_7
    have hb_4 := hb_4.upd a7 n_4__7
    have hb_10 := hb_10.upd a7 n_10__7
    have szB := Nat.le_trans szB a7.size
    have o29 := o29.updD a7 d_o29_b_7
    have hb_7 : Has w7 b_7 ([.slice (some ⟨b_10, 0, none⟩) size size, .slice a_29 ((freeB size i ++ [(size : Int) - 1 - (i : Int)]).map fun x => [i6 x]).length c_29, .int .i64 (cnt 10 l : Nat), .int .u64 r]) _ := hb_7
    refine RL.nil (RC.back ?_)
    refine RC.region rfl ?_
    refine RL.ev (.move rfl) rfl rfl ?_
    refine RL.ev (.as (.bin rfl rfl rfl) (wi64 (y := (size : Int) - 1 - ((i + 1 : Nat) : Int)) (by omega) (by omega))) rfl rfl ?_
    refine RL.ev (.assign rfl) rfl rfl ?_
    exact RL.nil (fun a ka => ⟨(i + 1, a_29, _, c_29), ⟨by omega, by rw [freeB_succ]; exact o29, hb_4, hb_7, hb_10, szB, S⟩, by omega, ka.keep (keep_of (by repeat (first | exact trivial | refine And.intro rfl ?_)))⟩)
  ·
    obtain rfl : i = size - cnt 10 l := (by omega)
    have d4 : ∀ k, ob (.slice a_u ((freeB size (size - cnt 10 l)).map fun x => [i6 x]).length c_u) = some k → k ≠ b_4 := fun k hk e => absurd (o.ge k hk).1 (by omega)
    have d7 : ∀ k, ob (.slice a_u ((freeB size (size - cnt 10 l)).map fun x => [i6 x]).length c_u) = some k → k ≠ b_7 := fun k hk e => absurd (o.ge k hk).1 (by omega)
    have d10 : ∀ k, ob (.slice a_u ((freeB size (size - cnt 10 l)).map fun x => [i6 x]).length c_u) = some k → k ≠ b_10 := fun k hk e => absurd (o.ge k hk).1 (by omega)
    refine RC.exit rfl (RC.back ?_)
    refine RC.seq ?_
    refine RC.drawD (fun k => k = b_4) [4] w5.heap.size 6 rfl rfl mxo (fun w8 s9 => ?_)
    have hNN : ∀ k, ((k = b_4) ∨ w5.heap.size ≤ k) → w.heap.size ≤ k := fun k e => e.elim (fun e => e ▸ ge_4) (fun e => Nat.le_trans S.size e)
    have ent_S := S.size
    have hN0 : ∀ k, w5.heap.size ≤ k → w.heap.size ≤ k := fun k e => Nat.le_trans S.size e
    have ltD_b_4 := hb_4.lt
    have ltD_b_7 := hb_7.lt
    have ltD_b_10 := hb_10.lt
    have ltD_o := fun k hk => (o.ge k hk).2
    have szD := Nat.le_refl w5.heap.size
    have S := S.trans s9
    have hb_4 := hb_4.sub s9
    have hb_7 := hb_7.sub s9
    have hb_10 := hb_10.sub s9
    have szB := Nat.le_trans szB s9.size
    have o := o.sub s9
    have szD := Nat.le_trans szD s9.size
    refine RD.take 0 rfl (by kernel_rfl) (by kernel_rfl) (by kernel_rfl) (fun w' s' => .field0 fo80_0 rfl) rfl rfl ?_
    refine RD.take 1 rfl (by kernel_rfl) (by kernel_rfl) (by kernel_rfl) (fun w' s' => .loadR ([.slice (some ⟨b_10, 0, none⟩) size size, .slice a_u ((freeB size (size - cnt 10 l)).map fun x => [i6 x]).length c_u]) sh34 rfl (row_pref (xs := [.slice (some ⟨b_10, 0, none⟩) size size, .slice a_u ((freeB size (size - cnt 10 l)).map fun x => [i6 x]).length c_u]) (ys := [.int .i64 (cnt 10 l : Nat), .int .u64 r]) (hb_7.step s' (fun e => e.elim (fun e => n_4__7.symm e) (fun e => Nat.not_le.2 ltD_b_7 e)))) rfl) rfl rfl ?_
    refine RD.take 2 rfl (by kernel_rfl) (by kernel_rfl) (by kernel_rfl) (fun w' s' => .field0 fo80_2 rfl) rfl rfl ?_
    refine RD.take 3 rfl (by kernel_rfl) (by kernel_rfl) (by kernel_rfl) (fun w' s' => .load1 sh36 rfl ((hb_7.step s' (fun e => e.elim (fun e => n_4__7.symm e) (fun e => Nat.not_le.2 ltD_b_7 e))).cell rfl)) rfl rfl ?_
    refine RD.all [4] (by kernel_rfl) rfl (RDs.cons rfl ?_ (RDs.nil))
    refine RL.store sh34 rfl rfl rfl hb_4 (by exact Nat.le_of_ble_eq_true rfl) (by rfl) rfl (fun w10 z10 hb_4 a10 => ?_)
    have S := S.upd a10 ge_4
    have hb_7 := hb_7.upd a10 n_4__7.symm
    have hb_10 := hb_10.upd a10 n_4__10.symm
    have szB := Nat.le_trans szB a10.size
    have o := o.updD a10 d4
    have szD := Nat.le_trans szD a10.size
    have hb_4 : Has w10 b_4 ([.slice (some ⟨b_10, 0, none⟩) size size, .slice a_u ((freeB size (size - cnt 10 l)).map fun x => [i6 x]).length c_u]) _ := hb_4.now (by kernel_rfl)
    refine RD.backW rfl (a10.mono fun k _ e => e ▸ (.inl (rfl))) ?_
    refine RD.take 5 rfl (by kernel_rfl) (by kernel_rfl) (by kernel_rfl) (fun w' s' => .assign rfl) rfl rfl ?_
    refine RD.done (by kernel_rfl) (RC.back ?_)
    refine RC.done (rs := [.cell 4 34, .tmp 5]) (vs := [_, _]) rfl rfl ⟨⟨_, rfl, .inr ⟨[.slice (some ⟨b_10, 0, none⟩) size size, .slice a_u ((freeB size (size - cnt 10 l)).map fun x => [i6 x]).length c_u], sh34, hb_4.row, rfl⟩⟩, rfl, trivial⟩ ?_
    -- end 1
    have kc := o.form
    obtain ⟨_, c', e, hk⟩ := kc
    cases e
    rw [List.length_map] at hk
    have hns := hB.len
    simp only [] at hns
    refine ⟨_, r, some ⟨b_10, 0, none⟩, a_u, size, c_u, ?_, hB, by rw [hB.len]; exact Nat.le_refl _, hk, fun N hN u hu => ⟨?_, (o.imm (N := N) (fun k hk => by have := hN k hk; omega)) u hu, hB.nok hok, ?_⟩, S⟩
    · show tup [Value.agg _, _] = _
      simp only [arV, hns, List.length_map]
      rfl
    · exact Has.sl0 (hb_10.step hu (fun e => by have := hN _ e; omega)) (fun r hr => by obtain ⟨z, _, rfl⟩ := List.mem_map.1 hr; rfl)
    · intro x hx
      have := freeB_mem.1 hx
      unfold I64
      omega
theorem c_many9 (l : List It) (a : Option Addr) (c m : Nat) (hm : m = l.length) (hap : Ap l) (hfit : ∀ x ∈ l, shL x.k l ≤ 9) (hok : ∀ z ∈ l, z.ok) (hl6 : l.length ≤ 10000) (w : World) (hl : Sl w a 2 (l.map It.cells)) :
    FC Try.prog 34 [.slice a m c] w (Val (.int .i64 (cnt 10 l : Nat)) w) := by
  subst hm
  have hc := cnt_le 10 l
  refine FC.intro Try.func34 rfl Try.ntmps34 rfl ?_
  have S := Sub.refl w
  refine RC.seq ?_
  refine RC.region rfl ?_
  refine RL.ev (.assign rfl) rfl rfl ?_
  refine RL.nil (RC.back ?_)
  refine RC.seq ?_
  refine RC.region rfl ?_
  refine RL.ev (.move rfl) rfl rfl ?_
  refine RL.ev (.len sl26 rfl) rfl rfl ?_
  refine RL.ev (.as (.bin rfl rfl rfl) (wi64 (y := ((13 * l.length : Nat) : Int)) (by omega) (by omega))) rfl rfl ?_
  refine RL.ev (.as (.bin rfl rfl rfl) (wi64 (y := ((13 * l.length + 13 : Nat) : Int)) (by omega) (by omega))) rfl rfl ?_
  refine RL.ev (.move rfl) rfl rfl ?_
  refine RL.call rfl ok18 (c_build9 (13 * l.length + 13) l a c l.length rfl hap hfit hok (by omega) (by omega) (by omega) (by omega) w (hl.sub S)) rfl rfl ?_
  rintro _ w1 ⟨B, r, na, fa, nc, fc, rfl, hB, _, _, _, s2⟩
  have S := S.trans s2
  have hBl := hB.len
  have hBf := hB.free
  refine RL.ev (.move rfl) rfl rfl ?_
  refine RL.ev (.extract rfl rfl) rfl rfl ?_
  refine RL.ev (.extract rfl rfl) rfl rfl ?_
  refine RL.alloc ze34 rfl rfl (fun b_3 w_3 e_3 z_3 hb_3 s_3 => ?_)
  have ge_3 := S.le e_3
  have S := S.trans s_3
  refine RL.store sh34 rfl rfl rfl hb_3 (by exact Nat.le_of_ble_eq_true rfl) (by rfl) rfl (fun w3 z3 hb_3 a3 => ?_)
  have S := S.upd a3 ge_3
  have hb_3 : Has w3 b_3 ([.slice na B.nodes.length nc, .slice fa B.free.length fc]) _ := hb_3.now (by kernel_rfl)
  refine RL.ev (.assign rfl) rfl rfl ?_
  refine RL.nil (RC.back ?_)
  refine RC.seq ?_
  refine RC.region rfl ?_
  refine RL.ev (.field0 fo34_0 rfl) rfl rfl ?_
  refine RL.ev (.load1 sh31 rfl (hb_3.cell rfl)) rfl rfl ?_
  refine RL.ev (.len sl31 rfl) rfl rfl ?_
  refine RL.ev (.field0 fo34_1 rfl) rfl rfl ?_
  refine RL.ev (.load1 sh32 rfl (hb_3.cell rfl)) rfl rfl ?_
  refine RL.ev (.len sl32 rfl) rfl rfl ?_
  refine RL.ev (.as (.bin rfl rfl rfl) (wi64 (y := (cnt 10 l : Nat)) (by omega) (by omega))) rfl rfl ?_
  refine RL.ev (.assign rfl) rfl rfl ?_
  refine RL.nil (RC.back ?_)
  refine RC.done (rs := [.tmp 2]) (vs := [_]) rfl rfl ⟨rfl, trivial⟩ ?_
  -- end 1
  exact ⟨rfl, S⟩
end Go.Proofs.Ytbfjobmebkhblaa
set_option linter.unusedVariables false
set_option linter.unusedSimpArgs false
namespace Go.Proofs.Ytbfjobmebkhblaa
open Go Go.XL
theorem c_refAt6 (l : List It) (a : Option Addr) (c m : Nat) (hm : m = l.length) (key : Int) (w : World) (hl : Sl w a 2 (l.map It.cells)) (hb : l.length ≤ 1000000) :
    FC Try.prog 20 [.slice a m c, .int .i64 key] w (fun v w' => Sub w w' ∧ ∃ n, v = .int .i64 n ∧ (n < 0 ∧ hasK l key = false ∨ 0 ≤ n ∧ hasK l key = true ∧ ∃ y, l[n.toNat]? = some y ∧ y.k = key)) := by
  subst hm
  refine FC.intro Try.func20 rfl Try.ntmps20 rfl ?_
  have S := Sub.refl w
  refine RC.seq ?_
  refine RC.region rfl ?_
  refine RL.ev (.assign rfl) rfl rfl ?_
  refine RL.nil (RC.back ?_)
  refine RC.seq ?_
  refine RC.seq ?_
  refine RC.region rfl ?_
  refine RL.ev (.move rfl) rfl rfl ?_
  refine RL.ev (.len sl26 rfl) rfl rfl ?_
  refine RL.ev (.move rfl) rfl rfl ?_
  refine RL.nil (RC.back ?_)
  refine RC.block ?_
  refine RC.loop (α := Nat) (fun i => [(1, .int .i64 key), (7, .slice a l.length c), (8, .int .i64 (l.length : Int)), (9, .int .i64 (i : Int))]) (fun i w1 => (i ≤ l.length ∧ ∀ y ∈ l.take i, ¬ y.k = key) ∧ Sub w w1) (fun i => l.length - i) 0 (keep_of (by repeat (first | exact trivial | refine And.intro rfl ?_))) (⟨⟨Nat.zero_le _, by simp⟩, S⟩) (fun i w1 hJ => ?_)
  obtain ⟨⟨hi, hp⟩, S⟩ := hJ
  refine RC.seq ?_
  refine RC.region rfl ?_
  refine RL.ev (.bin rfl rfl rfl) rfl rfl ?_
  refine RL.nil (RC.back ?_)
  refine RC.seq ?_
  refine RC.cond_dec rfl (fun h2 => ?_) (fun h2 => ?_)
  ·
    obtain ⟨x, hx⟩ := getSome (l := l) (i := i) (by omega)
    refine RC.skip (RC.back ?_)
    refine RC.seq ?_
    refine RC.block ?_
    refine RC.seq ?_
    refine RC.region rfl ?_
    refine RL.ev (.move rfl) rfl rfl ?_
    refine RL.ev (.indexS sl26 rfl rfl (by omega) (hl.is (i := 0) (by simp only [List.length_map, List.length_cons, List.length_nil]; omega))) rfl rfl ?_
    refine RL.ev (.loadR (x.cells) sh29 rfl ((hl.sub S).rowAt (enc := It.cells) (i := i) hx) rfl) rfl rfl ?_
    refine RL.alloc ze29 rfl rfl (fun b_6 w_6 e_6 z_6 hb_6 s_6 => ?_)
    have ge_6 := S.le e_6
    have S := S.trans s_6
    refine RL.ev (.assign rfl) rfl rfl ?_
    refine RL.store sh29 rfl rfl rfl hb_6 (by exact Nat.le_of_ble_eq_true rfl) (by rfl) rfl (fun w3 z3 hb_6 a3 => ?_)
    have S := S.upd a3 ge_6
    have hb_6 : Has w3 b_6 (x.cells) _ := hb_6.now (by kernel_rfl)
    refine RL.nil (RC.back ?_)
    refine RC.seq ?_
    refine RC.region rfl ?_
    refine RL.ev (.field0 fo29_0 rfl) rfl rfl ?_
    refine RL.ev (.load1 sh2 rfl (hb_6.cell rfl)) rfl rfl ?_
    refine RL.ev (.move rfl) rfl rfl ?_
    refine RL.ev (.bin rfl rfl rfl) rfl rfl ?_
    refine RL.nil (RC.back ?_)
    refine RC.cond_dec rfl (fun h4 => ?_) (fun h4 => ?_)
    ·
      have hk := h4
      refine RC.seq ?_
      refine RC.region rfl ?_
      refine RL.ev (.move rfl) rfl rfl ?_
      refine RL.ev (.assign rfl) rfl rfl ?_
      refine RL.nil (RC.back ?_)
      refine RC.done (rs := [.tmp 4]) (vs := [_]) rfl rfl ⟨rfl, trivial⟩ ?_
      -- end 1
      exact ⟨S, _, rfl, .inr ⟨by omega, hasK_iff.2 ⟨x, List.mem_of_getElem? hx, hk⟩, x, hx, hk⟩⟩
    ·
      have hk := h4
      refine RC.skip (RC.back ?_)
      refine RC.region rfl ?_
      refine RL.ev (.as (.bin rfl rfl rfl) (wi64 (y := ((i + 1 : Nat) : Int)) (by omega) (by omega))) rfl rfl ?_
      refine RL.ev (.move rfl) rfl rfl ?_
      exact RL.nil (fun a ka => ⟨i + 1, ⟨⟨by omega, fun y hy => by rw [List.take_add_one, hx] at hy; rcases List.mem_append.1 hy with hy | hy; exact hp y hy; (have e : y = x := (by simpa using hy)); rw [e]; exact hk⟩, S⟩, by omega, ka.keep (keep_of (by repeat (first | exact trivial | refine And.intro rfl ?_)))⟩)
  ·
    obtain rfl : i = l.length := (by omega)
    rw [List.take_length] at hp
    refine RC.exit rfl (RC.back ?_)
    refine RC.seq ?_
    refine RC.region rfl ?_
    refine RL.ev (.assign rfl) rfl rfl ?_
    refine RL.nil (RC.back ?_)
    refine RC.done (rs := [.tmp 4]) (vs := [_]) rfl rfl ⟨rfl, trivial⟩ ?_
    -- end 2
    exact ⟨S, _, rfl, .inl ⟨by decide, hasK_no hp⟩⟩
end Go.Proofs.Ytbfjobmebkhblaa
set_option linter.unusedVariables false
set_option linter.unusedSimpArgs false
namespace Go.Proofs.Ytbfjobmebkhblaa
open Go Go.XL
theorem c_refDel (l : List It) (a : Option Addr) (c m : Nat) (hm : m = l.length) (key : Int) (w : World) (hl : Sl w a 2 (l.map It.cells)) (hb : l.length ≤ 1000000) :
    FC Try.prog 40 [.slice a m c, .int .i64 key] w (fun u w' => ∃ a' c', u = .slice a' ((delL l key).map It.cells).length c' ∧ Ows w.heap.size w' 29 2 (.slice a' ((delL l key).map It.cells).length c') ((delL l key).map It.cells) ∧ Sub w w') := by
  subst hm
  refine FC.intro Try.func40 rfl Try.ntmps40 rfl ?_
  have S := Sub.refl w
  refine RC.seq ?_
  refine RC.region rfl ?_
  refine RL.ev (.assign rfl) rfl rfl ?_
  refine RL.nil (RC.back ?_)
  refine RC.seq ?_
  refine RC.region rfl ?_
  refine RL.buildSlice0 sl26 rfl rfl (fun b_8 w_8 e_8 z_8 hb_8 s_8 => ?_)
  have ge_8 := S.le e_8
  have S := S.trans s_8
  refine RL.ev (.assign rfl) rfl rfl ?_
  refine RL.nil (RC.back ?_)
  refine RC.seq ?_
  refine RC.seq ?_
  refine RC.region rfl ?_
  refine RL.ev (.move rfl) rfl rfl ?_
  refine RL.ev (.len sl26 rfl) rfl rfl ?_
  refine RL.ev (.move rfl) rfl rfl ?_
  refine RL.nil (RC.back ?_)
  refine RC.block ?_
  refine RC.loop (α := Nat × Option Addr × Nat × Nat) (fun x => [(1, .int .i64 key), (5, .slice x.2.1 x.2.2.1 x.2.2.2), (9, .slice a l.length c), (10, .int .i64 (l.length : Int)), (11, .int .i64 (x.1 : Int))]) (fun x w1 => x.1 ≤ l.length ∧ Ows w.heap.size w1 29 2 (.slice x.2.1 x.2.2.1 x.2.2.2) ((delL (l.take x.1) key).map It.cells) ∧ Sub w w1) (fun x => l.length - x.1) (0, some ⟨b_8, 0, none⟩, 0, 0) (keep_of (by repeat (first | exact trivial | refine And.intro rfl ?_))) (⟨Nat.zero_le _, Ows.lit0 hb_8 (by omega), S⟩) (fun x w1 hJ => ?_)
  obtain ⟨i, ao, mo, co⟩ := x; obtain ⟨hi, o, S⟩ := hJ; simp only [] at hi o; obtain rfl := o.sl.2; have szB := S.size; have hdl : (delL (l.take i) key).length ≤ i := Nat.le_trans (List.length_filter_le _ _) (by rw [List.length_take]; omega)
  refine RC.seq ?_
  refine RC.region rfl ?_
  refine RL.ev (.bin rfl rfl rfl) rfl rfl ?_
  refine RL.nil (RC.back ?_)
  refine RC.seq ?_
  refine RC.cond_dec rfl (fun h2 => ?_) (fun h2 => ?_)
  ·
    obtain ⟨x, hx⟩ := getSome (l := l) (i := i) (by omega)
    refine RC.skip (RC.back ?_)
    refine RC.seq ?_
    refine RC.block ?_
    refine RC.seq ?_
    refine RC.region rfl ?_
    refine RL.ev (.indexS sl26 rfl rfl (by omega) (hl.is (i := 0) (by simp only [List.length_map, List.length_cons, List.length_nil]; omega))) rfl rfl ?_
    refine RL.ev (.loadR (x.cells) sh29 rfl ((hl.sub S).rowAt (enc := It.cells) (i := i) hx) rfl) rfl rfl ?_
    refine RL.alloc ze29 rfl rfl (fun b_7 w_7 e_7 z_7 hb_7 s_7 => ?_)
    have ge_7 := S.le e_7
    have d_o_b_7 := o.neNew e_7
    have S := S.trans s_7
    have o := o.sub s_7
    have szB := Nat.le_trans szB s_7.size
    refine RL.store sh29 rfl rfl rfl hb_7 (by exact Nat.le_of_ble_eq_true rfl) (by rfl) rfl (fun w3 z3 hb_7 a3 => ?_)
    have S := S.upd a3 ge_7
    have o := o.updD a3 d_o_b_7
    have szB := Nat.le_trans szB a3.size
    have hb_7 : Has w3 b_7 (x.cells) _ := hb_7.now (by kernel_rfl)
    refine RL.nil (RC.back ?_)
    refine RC.seq ?_
    refine RC.region rfl ?_
    refine RL.ev (.field0 fo29_0 rfl) rfl rfl ?_
    refine RL.ev (.load1 sh2 rfl (hb_7.cell rfl)) rfl rfl ?_
    refine RL.ev (.move rfl) rfl rfl ?_
    refine RL.ev (.bin rfl rfl rfl) rfl rfl ?_
    refine RL.nil (RC.back ?_)
    refine RC.cond_dec rfl (fun h4 => ?_) (fun h4 => ?_)
    ·
      have hk : ¬ x.k = key := h4
      have hnext : delL (l.take (i + 1)) key = delL (l.take i) key ++ [x] := (by unfold delL; rw [filter_take hx, if_pos (decide_eq_true hk)])
      refine RC.region rfl ?_
      refine RL.ev (.move rfl) rfl rfl ?_
      refine RL.ev (.loadR (x.cells) sh29 rfl hb_7.row rfl) rfl rfl ?_
      refine RL.buildSlice1 sl26 _ ze29 rfl rfl rfl rfl rfl rfl rfl (fun b_21 w_21 e_21 z_21 hb_21 s_21 => ?_)
      have ge_21 := S.le e_21
      have n_7__21 := hb_7.ne e_21
      have d_o_b_21 := o.neNew e_21
      have S := S.trans s_21
      have o := o.sub s_21
      have szB := Nat.le_trans szB s_21.size
      have hb_7 := hb_7.sub s_21
      have sz_22 := S.size
      have ltb_7_22 := hb_7.lt
      have ltb_21_22 := hb_21.lt
      refine RL.append2 (base := w.heap.size) (rows := (delL (l.take i) key).map It.cells) (news := [_]) sl26 ze29 rfl rfl rfl rfl (.inl o) (Has.slOne hb_21) rfl (by intro r hr; rw [List.mem_singleton] at hr; subst hr; rfl) rfl (by (try simp only [List.length_map, List.length_nil, List.length_append, List.length_cons]); omega) (by (try simp only [List.length_map, List.length_nil, List.length_append, List.length_cons]); omega) (by omega) rfl rfl (fun v_22 w_22 hc_22 ho_22 ag_22 ob_22 => ?_)
      have o22 := ho_22 (.inl (by simp))
      rw [show _ ++ [_] = ((delL (l.take i) key ++ [x]).map It.cells) from by rw [List.map_append]; rfl] at o22
      have d_o22_b_7 := obNe ob_22 d_o_b_7 hb_7.lt
      have S := S.agrN ag_22 (fun k e => Nat.le_trans (by omega) e.2)
      have szB := Nat.le_trans szB ag_22.size
      have hb_7 := hb_7.step ag_22 (fun e => d_o_b_7 _ e.1 rfl)
      obtain ⟨a_22, c_22, rfl, k_22⟩ := o22.form
      refine RL.ev (.assign rfl) rfl rfl ?_
      refine RL.nil (RC.back ?_)
      refine RC.region rfl ?_
      refine RL.ev (.as (.bin rfl rfl rfl) (wi64 (y := ((i + 1 : Nat) : Int)) (by omega) (by omega))) rfl rfl ?_
      refine RL.ev (.move rfl) rfl rfl ?_
      exact RL.nil (fun a ka => ⟨(i + 1, a_22, _, c_22), ⟨by omega, by show Ows _ _ _ _ _ ((delL (l.take (i + 1)) key).map It.cells); rw [hnext]; exact o22, S⟩, by omega, ka.keep (keep_of (by repeat (first | exact trivial | refine And.intro rfl ?_)))⟩)
    ·
      have hk : x.k = key := Decidable.not_not.1 h4
      have hnext : delL (l.take (i + 1)) key = delL (l.take i) key := (by unfold delL; rw [filter_take hx, if_neg (by simp [hk]), List.append_nil])
      refine RC.skip (RC.back ?_)
      refine RC.region rfl ?_
      refine RL.ev (.as (.bin rfl rfl rfl) (wi64 (y := ((i + 1 : Nat) : Int)) (by omega) (by omega))) rfl rfl ?_
      refine RL.ev (.move rfl) rfl rfl ?_
      exact RL.nil (fun a ka => ⟨(i + 1, ao, _, co), ⟨by omega, by show Ows _ _ _ _ _ ((delL (l.take (i + 1)) key).map It.cells); rw [hnext]; exact o, S⟩, by omega, ka.keep (keep_of (by repeat (first | exact trivial | refine And.intro rfl ?_)))⟩)
  ·
    obtain rfl : i = l.length := (by omega)
    rw [List.take_length] at o
    refine RC.exit rfl (RC.back ?_)
    refine RC.seq ?_
    refine RC.region rfl ?_
    refine RL.ev (.move rfl) rfl rfl ?_
    refine RL.ev (.assign rfl) rfl rfl ?_
    refine RL.nil (RC.back ?_)
    refine RC.done (rs := [.tmp 4]) (vs := [_]) rfl rfl ⟨rfl, trivial⟩ ?_
    -- end 1
    exact ⟨ao, co, by rw [List.take_length]; rfl, o, S⟩
end Go.Proofs.Ytbfjobmebkhblaa
set_option linter.unusedVariables false
set_option linter.unusedSimpArgs false
namespace Go.Proofs.Ytbfjobmebkhblaa
open Go Go.XL
theorem newA_freeH (n : Nat) : (newA n).free.length = n := by simp [newA, newFree_len]
theorem tab_of {A : Ar} {r : Int} {L : List It} (hA : AOk A) (h : IsH A 10 r L) (hap : Ap L) (hl : L.length ≤ 200) : isTab A r := ⟨hA, L, h, hap, hl⟩
theorem put_twoH {A B : Ar} {r key v r' e : Int} {L : List It} (h : PutPH A r key v B r' e) (hm : isTab A r) (hL : IsH A 10 r L) (hap : Ap L) :
    (BadH L key → e = 5 ∧ r' = 0) ∧ (¬ BadH L key → e = 2 ∧ A.free.length < cnt 10 (putM L key v) ∨ e = 0 ∧ Ext A B ∧ AOk B ∧ A.free.length ≤ B.free.length + cnt 10 (putM L key v) ∧ IsH B 10 r' (putM L key v)) := by
  obtain ⟨_, h2, h3⟩ := h
  refine ⟨fun hb => ?_, fun hb => ?_⟩
  · rcases h3 L hm hL hap with h | h | h
    · exact ⟨h.2, (h2 (by omega)).2⟩
    · exact absurd hb h.1
    · exact absurd hb h.1
  · rcases h3 L hm hL hap with h | h | h
    · exact absurd h.1 hb
    · exact .inl h.2
    · exact .inr h.2
theorem del_twoH {A B : Ar} {r key r' e : Int} {L : List It} (h : DelPH A r key B r' e) (hm : isTab A r) (hL : IsH A 10 r L) (hap : Ap L) :
    (hasK L key = false → e = 3 ∧ r' = 0) ∧ (hasK L key = true → e = 2 ∧ A.free.length < cnt 10 (delL L key) ∨ e = 0 ∧ Ext A B ∧ AOk B ∧ A.free.length ≤ B.free.length + cnt 10 (delL L key) ∧ IsH B 10 r' (delL L key)) := by
  obtain ⟨_, h2, h3⟩ := h
  refine ⟨fun hb => ?_, fun hb => ?_⟩
  · rcases h3 L hm hL hap with h | h | h
    · exact ⟨h.2, (h2 (by omega)).2⟩
    · rw [hb] at h; cases h.1
    · rw [hb] at h; cases h.1
  · rcases h3 L hm hL hap with h | h | h
    · rw [hb] at h; cases h.1
    · exact .inl h.2
    · exact .inr h.2
/-- a put that must go well -/
theorem PutPH.good {A B : Ar} {r key v r' e : Int} {L : List It} (h : PutPH A r key v B r' e) (hA : AOk A) (hL : IsH A 10 r L) (hap : Ap L) (hl : L.length < 9) (hk : -1073741824 ≤ key ∧ key ≤ 1073741824) (hf : 12 * (L.length + 1) ≤ A.free.length) :
    e = 0 ∧ Ext A B ∧ AOk B ∧ A.free.length ≤ B.free.length + cnt 10 (putM L key v) ∧ IsH B 10 r' (putM L key v) := by
  have hs := shL_le key L
  have hc := cnt_le 10 (putM L key v)
  have hpl := putM_len (key := key) (v := v) hap
  have hb : ¬ BadH L key := fun h => h.elim (by omega) (fun h => h.elim (by omega) (fun h => by omega))
  rcases (put_twoH h (tab_of hA hL hap (by omega)) hL hap).2 hb with h | h
  · omega
  · exact h
theorem c_isYesH (A : Ar) (na fa : Option Addr) (nc fc : Nat) (hnl : A.nodes.length ≤ 1000000000) (r : Int) (L M : List It) (hp : L.Perm M) (a : Option Addr) (c m : Nat) (hap : Ap M) (hm : m = M.length) (hr : U64 r) (hb : M.length ≤ 1000000) (hL : IsH A 10 r L) (w : World) (hR : ArR w na fa A) (hs : Sl w a 2 (M.map It.cells)) :
    FC Try.prog 32 [arV na fa nc fc A, .int .u64 r, .slice a m c, .int .i64 0] w (Val (.bool true) w) := by
  have h := c_refIsH A na fa nc fc hnl 10 0 r M a c m w (Nat.le_refl _) rfl hap hm hr hb hR hs
  rwa [isHB_yes (hL.perm hp)] at h
theorem c_alive9 (w : World) : FC Try.prog 31 [] w (Val (.bool true) w) := by
  have hok : AOk (newA 90) := newA_ok ⟨by decide, by decide⟩
  refine FC.intro Try.func31 rfl Try.ntmps31 rfl ?_
  have S := Sub.refl w
  refine RC.seq ?_
  refine RC.region rfl ?_
  refine RL.ev (.assign rfl) rfl rfl ?_
  refine RL.nil (RC.back ?_)
  refine RC.seq ?_
  refine RC.region rfl ?_
  refine RL.call rfl ok29 (c_aNew 90 ⟨by decide, by decide⟩ w) rfl rfl ?_
  rintro _ w1 ⟨na, fa, nc, fc, rfl, hnc, hfc, hn0, s2⟩
  have hA := Ft.new hn0 s2
  have S := S.trans s2
  refine RL.ev (.move rfl) rfl rfl ?_
  refine RL.ev (.extract rfl rfl) rfl rfl ?_
  refine RL.ev (.extract rfl rfl) rfl rfl ?_
  refine RL.alloc ze34 rfl rfl (fun b_1 w_1 e_1 z_1 hb_1 s_1 => ?_)
  have ge_1 := S.le e_1
  have d_hA_b_1 := hA.neNew e_1
  have S := S.trans s_1
  have hA := hA.sub s_1
  refine RL.store sh34 rfl rfl rfl hb_1 (by exact Nat.le_of_ble_eq_true rfl) (by rfl) rfl (fun w3 z3 hb_1 a3 => ?_)
  have S := S.upd a3 ge_1
  have hA := hA.updD a3 d_hA_b_1
  have hb_1 : Has w3 b_1 ([.slice na (newA 90).nodes.length nc, .slice fa (newA 90).free.length fc]) _ := hb_1.now (by kernel_rfl)
  refine RL.ev (.assign rfl) rfl rfl ?_
  refine RL.nil (RC.back ?_)
  refine RC.seq ?_
  refine RC.region rfl ?_
  refine RL.ev (.loadR ([.slice na (newA 90).nodes.length nc, .slice fa (newA 90).free.length fc]) sh34 rfl hb_1.row rfl) rfl rfl ?_
  refine RL.call rfl ok30 (c_hPut (newA 90) na fa nc fc hnc hfc 0 5 7 zu0 (by unfold I64; decide) (by unfold I64; decide) _ w3 hA) rfl rfl ?_
  rintro _ w4 ⟨s5, na', fa', nc', fc', B, r', e, M', rfl, hu, hnc', hfc', hA', hup, hpp⟩
  have d_hA'_b_1 := upNe hup d_hA_b_1 hb_1.lt
  have S := S.trans s5
  have hA := hA.sub s5
  have hb_1 := hb_1.sub s5
  obtain ⟨rfl, hx, hBok, hBf, hBT⟩ := hpp.good hok (isH_nil.2 rfl) List.Pairwise.nil (by decide) (by decide) (by rw [newA_freeH]; decide)
  refine RL.ev (.move rfl) rfl rfl ?_
  refine RL.ev (.extract rfl rfl) rfl rfl ?_
  refine RL.ev (.extract rfl rfl) rfl rfl ?_
  refine RL.ev (.extract rfl rfl) rfl rfl ?_
  refine RL.store sh34 rfl rfl rfl hb_1 (by exact Nat.le_of_ble_eq_true rfl) (by rfl) rfl (fun w6 z6 hb_1 a6 => ?_)
  have S := S.upd a6 ge_1
  have hA' := hA'.updD a6 d_hA'_b_1
  have hb_1 : Has w6 b_1 ([.slice na' B.nodes.length nc', .slice fa' B.free.length fc']) _ := hb_1.now (by kernel_rfl)
  refine RL.ev (.assign rfl) rfl rfl ?_
  refine RL.ev (.assign rfl) rfl rfl ?_
  refine RL.nil (RC.back ?_)
  refine RC.seq ?_
  refine RC.region rfl ?_
  refine RL.ev (.loadR ([.slice na' B.nodes.length nc', .slice fa' B.free.length fc']) sh34 rfl hb_1.row rfl) rfl rfl ?_
  refine RL.ev (.move rfl) rfl rfl ?_
  refine RL.call rfl ok35 (c_hGet B na' fa' nc' fc' hnc' hfc' r' 5 hu w6 hA'.now) rfl rfl ?_
  rintro _ w7 ⟨s8, v5, e5, rfl, _, hx2⟩
  have S := S.trans s8
  have hb_1 := hb_1.sub s8
  have hA' := hA'.sub s8
  have hx3 := hx2 _ (tab_of hBok hBT (List.pairwise_singleton _ _) (by decide)) hBT (List.pairwise_singleton _ _)
  have hx4 : v5 = 7 ∧ e5 = 0 := (hx3.elim (fun h => by obtain ⟨z, hz, _, hv, he⟩ := h; rw [List.mem_singleton.1 (show z ∈ [(⟨5, 7⟩ : It)] from hz)] at hv; exact ⟨hv, he⟩) (fun h => by cases h.1))
  obtain ⟨rfl, rfl⟩ := hx4
  refine RL.ev (.move rfl) rfl rfl ?_
  refine RL.ev (.extract rfl rfl) rfl rfl ?_
  refine RL.ev (.extract rfl rfl) rfl rfl ?_
  refine RL.ev (.assign rfl) rfl rfl ?_
  refine RL.ev (.assign rfl) rfl rfl ?_
  refine RL.nil (RC.back ?_)
  refine RC.seq ?_
  refine RC.region rfl ?_
  refine RL.ev (.move rfl) rfl rfl ?_
  refine RL.ev (.as (v' := .bool true) (.bin rfl rfl rfl) (congrArg Value.bool (decide_eq_true (rfl)))) rfl rfl ?_
  refine RL.ev (.move rfl) rfl rfl ?_
  refine RL.ev (.move rfl) rfl rfl ?_
  refine RL.ev (.as (v' := .bool true) (.bin rfl rfl rfl) (congrArg Value.bool (decide_eq_true (rfl)))) rfl rfl ?_
  refine RL.ev (.pick_t rfl rfl) rfl rfl ?_
  refine RL.ev (.move rfl) rfl rfl ?_
  refine RL.ev (.move rfl) rfl rfl ?_
  refine RL.ev (.as (v' := .bool true) (.bin rfl rfl rfl) (congrArg Value.bool (decide_eq_true (rfl)))) rfl rfl ?_
  refine RL.ev (.pick_t rfl rfl) rfl rfl ?_
  refine RL.ev (.move rfl) rfl rfl ?_
  refine RL.ev (.move rfl) rfl rfl ?_
  refine RL.ev (.as (v' := .bool true) (.bin rfl rfl rfl) (congrArg Value.bool (decide_eq_true (rfl)))) rfl rfl ?_
  refine RL.ev (.pick_t rfl rfl) rfl rfl ?_
  refine RL.ev (.assign rfl) rfl rfl ?_
  refine RL.nil (RC.back ?_)
  refine RC.done (rs := [.tmp 0]) (vs := [_]) rfl rfl ⟨rfl, trivial⟩ ?_
  -- end 1
  exact ⟨rfl, S⟩
def few130 (A : Ar) : Ar := ⟨A.nodes.take 130, A.free.take 132⟩
theorem few130_R {w na fa A} (h : ArR w na fa A) : ArR w na fa (few130 A) :=
  ⟨by rw [few130, List.map_take]; exact h.nodes.take _, by rw [few130, List.map_take]; exact h.free.take _, fun x hx => h.nok x (List.mem_of_mem_take hx), fun x hx => h.fok x (List.mem_of_mem_take hx)⟩
theorem c_few9 (A : Ar) (na fa : Option Addr) (nc fc : Nat) (hnc : A.nodes.length ≤ nc) (hfc : A.free.length ≤ fc) (w : World) :
    FC Try.prog 37 [arV na fa nc fc A] w (Val (arV na fa nc fc (few130 A)) w) := by
  refine FC.intro Try.func37 rfl Try.ntmps37 rfl ?_
  have S := Sub.refl w
  refine RC.seq ?_
  refine RC.region rfl ?_
  refine RL.box rfl rfl rfl (fun b_1 w_1 e_1 z_1 hb_1 s_1 => ?_)
  have ge_1 := S.le e_1
  have S := S.trans s_1
  have hb_1 : Has w_1 b_1 ([.slice na A.nodes.length nc, .slice fa A.free.length fc]) _ := hb_1
  refine RL.alloc ze34 rfl rfl (fun b_2 w_2 e_2 z_2 hb_2 s_2 => ?_)
  have ge_2 := S.le e_2
  have n_1__2 := hb_1.ne e_2
  have S := S.trans s_2
  have hb_1 := hb_1.sub s_2
  refine RL.nil (RC.back ?_)
  refine RC.seq ?_
  refine RC.drawD (fun k => k = b_1) [15, 17] w_2.heap.size 18 rfl rfl mxo (fun w1 s2 => ?_)
  have hNN : ∀ k, ((k = b_1) ∨ w_2.heap.size ≤ k) → w.heap.size ≤ k := fun k e => e.elim (fun e => e ▸ ge_1) (fun e => Nat.le_trans S.size e)
  have ent_S := S.size
  have hN0 : ∀ k, w_2.heap.size ≤ k → w.heap.size ≤ k := fun k e => Nat.le_trans S.size e
  have ltD_b_1 := hb_1.lt
  have ltD_b_2 := hb_2.lt
  have szD := Nat.le_refl w_2.heap.size
  have S := S.trans s2
  have hb_1 := hb_1.sub s2
  have hb_2 := hb_2.sub s2
  have szD := Nat.le_trans szD s2.size
  refine RD.take 0 rfl (by kernel_rfl) (by kernel_rfl) (by kernel_rfl) (fun w' s' => .field0 fo34_0 rfl) rfl rfl ?_
  refine RD.takeL 1 rfl (by kernel_rfl) (by kernel_rfl) (by kernel_rfl) (by kernel_rfl) (fun w' s' => .load1 sh31 rfl ((hb_1.step s' (fun e => Nat.not_le.2 ltD_b_1 e)).cell rfl)) rfl rfl ?_
  refine RD.take 2 rfl (by kernel_rfl) (by kernel_rfl) (by kernel_rfl) (fun w' s' => .field0 fo34_0 rfl) rfl rfl ?_
  refine RD.takeL 3 rfl (by kernel_rfl) (by kernel_rfl) (by kernel_rfl) (by kernel_rfl) (fun w' s' => .load1 sh31 rfl ((hb_1.step s' (fun e => Nat.not_le.2 ltD_b_1 e)).cell rfl)) rfl rfl ?_
  refine RD.take 4 rfl (by kernel_rfl) (by kernel_rfl) (by kernel_rfl) (fun w' s' => .len sl31 rfl) rfl rfl ?_
  refine RD.take 5 rfl (by kernel_rfl) (by kernel_rfl) (by kernel_rfl) (fun w' s' => .min2 rfl rfl) rfl rfl ?_
  refine RD.take 6 rfl (by kernel_rfl) (by kernel_rfl) (by kernel_rfl) (fun w' s' => .as (v' := .slice na (A.nodes.take 130).length nc) (.sliceHi sl31 rfl rfl (by split <;> omega)) (by rw [← few_len]; rfl)) rfl rfl ?_
  refine RD.take 7 rfl (by kernel_rfl) (by kernel_rfl) (by kernel_rfl) (fun w' s' => .field0 fo34_1 rfl) rfl rfl ?_
  refine RD.takeL 8 rfl (by kernel_rfl) (by kernel_rfl) (by kernel_rfl) (by kernel_rfl) (fun w' s' => .load1 sh32 rfl ((hb_1.step s' (fun e => Nat.not_le.2 ltD_b_1 e)).cell rfl)) rfl rfl ?_
  refine RD.take 9 rfl (by kernel_rfl) (by kernel_rfl) (by kernel_rfl) (fun w' s' => .field0 fo34_1 rfl) rfl rfl ?_
  refine RD.takeL 10 rfl (by kernel_rfl) (by kernel_rfl) (by kernel_rfl) (by kernel_rfl) (fun w' s' => .load1 sh32 rfl ((hb_1.step s' (fun e => Nat.not_le.2 ltD_b_1 e)).cell rfl)) rfl rfl ?_
  refine RD.take 11 rfl (by kernel_rfl) (by kernel_rfl) (by kernel_rfl) (fun w' s' => .len sl32 rfl) rfl rfl ?_
  refine RD.take 12 rfl (by kernel_rfl) (by kernel_rfl) (by kernel_rfl) (fun w' s' => .min2 rfl rfl) rfl rfl ?_
  refine RD.take 13 rfl (by kernel_rfl) (by kernel_rfl) (by kernel_rfl) (fun w' s' => .as (v' := .slice fa (A.free.take 132).length fc) (.sliceHi sl32 rfl rfl (by split <;> omega)) (by rw [← few_len]; rfl)) rfl rfl ?_
  refine RD.take 14 rfl (by kernel_rfl) (by kernel_rfl) (by kernel_rfl) (fun w' s' => .field0 fo34_0 rfl) rfl rfl ?_
  refine RD.all [15] (by kernel_rfl) rfl (RDs.cons rfl ?_ (RDs.nil))
  refine RL.store sh31 rfl rfl rfl hb_1 (by exact Nat.le_of_ble_eq_true rfl) (by rfl) rfl (fun w3 z3 hb_1 a3 => ?_)
  have S := S.upd a3 ge_1
  have hb_2 := hb_2.upd a3 n_1__2.symm
  have szD := Nat.le_trans szD a3.size
  refine RD.backW rfl (a3.mono fun k _ e => e ▸ (.inl (rfl))) ?_
  refine RD.take 16 rfl (by kernel_rfl) (by kernel_rfl) (by kernel_rfl) (fun w' s' => .field0 fo34_1 rfl) rfl rfl ?_
  refine RD.all [17] (by kernel_rfl) rfl (RDs.cons rfl ?_ (RDs.nil))
  refine RL.store sh32 rfl rfl rfl hb_1 (by exact Nat.le_of_ble_eq_true rfl) (by rfl) rfl (fun w4 z4 hb_1 a4 => ?_)
  have S := S.upd a4 ge_1
  have hb_2 := hb_2.upd a4 n_1__2.symm
  have szD := Nat.le_trans szD a4.size
  refine RD.backW rfl (a4.mono fun k _ e => e ▸ (.inl (rfl))) ?_
  refine RD.done (by kernel_rfl) (RC.back ?_)
  refine RC.seq ?_
  refine RC.region rfl ?_
  refine RL.ev (.loadR ([.slice na (A.nodes.take 130).length nc, .slice fa (A.free.take 132).length fc]) sh34 rfl hb_1.row rfl) rfl rfl ?_
  refine RL.store sh34 rfl rfl rfl hb_2 (by exact Nat.le_of_ble_eq_true rfl) (by rfl) rfl (fun w5 z5 hb_2 a5 => ?_)
  have S := S.upd a5 ge_2
  have hb_1 := hb_1.upd a5 n_1__2
  have hb_2 : Has w5 b_2 ([.slice na (A.nodes.take 130).length nc, .slice fa (A.free.take 132).length fc]) _ := hb_2.now (by kernel_rfl)
  refine RL.nil (RC.back ?_)
  refine RC.done (rs := [.cell 2 34]) (vs := [_]) rfl rfl ⟨⟨_, rfl, .inr ⟨[.slice na (A.nodes.take 130).length nc, .slice fa (A.free.take 132).length fc], sh34, hb_2.row, rfl⟩⟩, trivial⟩ ?_
  -- end 1
  exact ⟨rfl, S⟩
/-- all nodes of an arena that are not free are as they were -/
theorem c_kept9 (A B : Ar) (na fa nb fb : Option Addr) (nc fc ncb fcb : Nat) (w : World) (hA : ArR w na fa A) (hB : ArR w nb fb B) (hE : Ext A B) (hok : AOk B) :
    FC Try.prog 39 [arV na fa nc fc A, arV nb fb ncb fcb B] w (Val (.bool true) w) := by
  have hAn := hA.nodes
  have hAf := hA.free
  have hBn := hB.nodes
  have hBf := hB.free
  have hlen := hE.len
  have hmost := hok.most
  refine FC.intro Try.func39 rfl Try.ntmps39 rfl ?_
  have S := Sub.refl w
  refine RC.seq ?_
  refine RC.region rfl ?_
  refine RL.box rfl rfl rfl (fun b_2 w_2 e_2 z_2 hb_2 s_2 => ?_)
  have ge_2 := S.le e_2
  have S := S.trans s_2
  have hb_2 : Has w_2 b_2 ([.slice na A.nodes.length nc, .slice fa A.free.length fc]) _ := hb_2
  refine RL.box rfl rfl rfl (fun b_3 w_3 e_3 z_3 hb_3 s_3 => ?_)
  have ge_3 := S.le e_3
  have n_2__3 := hb_2.ne e_3
  have S := S.trans s_3
  have hb_2 := hb_2.sub s_3
  have hb_3 : Has w_3 b_3 ([.slice nb B.nodes.length ncb, .slice fb B.free.length fcb]) _ := hb_3
  refine RL.ev (.assign rfl) rfl rfl ?_
  refine RL.nil (RC.back ?_)
  refine RC.seq ?_
  refine RC.seq ?_
  refine RC.region rfl ?_
  refine RL.ev (.field0 fo34_0 rfl) rfl rfl ?_
  refine RL.ev (.load1 sh31 rfl (hb_2.cell rfl)) rfl rfl ?_
  refine RL.ev (.len sl31 rfl) rfl rfl ?_
  refine RL.ev (.field0 fo34_0 rfl) rfl rfl ?_
  refine RL.ev (.load1 sh31 rfl (hb_3.cell rfl)) rfl rfl ?_
  refine RL.ev (.len sl31 rfl) rfl rfl ?_
  refine RL.ev (.as (v' := .bool false) (.bin rfl rfl rfl) (congrArg Value.bool (decide_eq_false (by omega)))) rfl rfl ?_
  refine RL.ev (.move rfl) rfl rfl ?_
  refine RL.ev (.loadR ([.slice nb B.nodes.length ncb, .slice fb B.free.length fcb]) sh34 rfl hb_3.row rfl) rfl rfl ?_
  refine RL.call rfl ok67 (c_aRight B nb fb ncb fcb w_3 (hB.sub S)) rfl rfl ?_
  rintro _ w1 ⟨rfl, s2⟩
  have S := S.trans s2
  have hb_2 := hb_2.sub s2
  have hb_3 := hb_3.sub s2
  refine RL.ev (.as (v' := .bool false) (.not rfl) (congrArg Value.bool (by rw [aokB_yes hok]; rfl))) rfl rfl ?_
  refine RL.ev (.pick_f rfl rfl) rfl rfl ?_
  refine RL.nil (RC.back ?_)
  refine RC.cond_f rfl ?_
  refine RC.skip (RC.back ?_)
  refine RC.seq ?_
  refine RC.seq ?_
  refine RC.region rfl ?_
  refine RL.ev (.field0 fo34_0 rfl) rfl rfl ?_
  refine RL.ev (.load1 sh31 rfl (hb_2.cell rfl)) rfl rfl ?_
  refine RL.ev (.len sl31 rfl) rfl rfl ?_
  refine RL.ev (.move rfl) rfl rfl ?_
  refine RL.nil (RC.back ?_)
  refine RC.block ?_
  refine RC.loop (α := Nat) (fun i => [(2, .pointer (some ⟨b_2, 0, none⟩)), (3, .pointer (some ⟨b_3, 0, none⟩)), (20, .slice na A.nodes.length nc), (21, .int .i64 (A.nodes.length : Int)), (22, .int .i64 (i : Int))]) (fun i w3 => i ≤ A.nodes.length ∧ Has w3 b_2 [.slice na A.nodes.length nc, .slice fa A.free.length fc] 34 ∧ Has w3 b_3 [.slice nb B.nodes.length ncb, .slice fb B.free.length fcb] 34 ∧ Sub w w3) (fun i => A.nodes.length - i) 0 (keep_of (by repeat (first | exact trivial | refine And.intro rfl ?_))) (⟨Nat.zero_le _, hb_2, hb_3, S⟩) (fun i w3 hJ => ?_)
  obtain ⟨hi, hb_2, hb_3, S⟩ := hJ
  refine RC.seq ?_
  refine RC.region rfl ?_
  refine RL.ev (.bin rfl rfl rfl) rfl rfl ?_
  refine RL.nil (RC.back ?_)
  refine RC.seq ?_
  refine RC.cond_dec rfl (fun h4 => ?_) (fun h4 => ?_)
  ·
    obtain ⟨x, hx⟩ := getSome (l := A.nodes) (i := i) (by omega)
    refine RC.skip (RC.back ?_)
    refine RC.seq ?_
    refine RC.block ?_
    refine RC.seq ?_
    refine RC.region rfl ?_
    refine RL.ev (.move rfl) rfl rfl ?_
    refine RL.ev (.indexS sl31 rfl rfl (by omega) (hAn.is (i := 0) (by simp only [List.length_map, List.length_cons, List.length_nil]; omega))) rfl rfl ?_
    refine RL.ev (.loadR (x.cells) sh97 rfl ((hAn.sub S).rowAt (enc := Node.cells) (i := i) hx) rfl) rfl rfl ?_
    refine RL.alloc ze97 rfl rfl (fun b_6 w_6 e_6 z_6 hb_6 s_6 => ?_)
    have ge_6 := S.le e_6
    have n_2__6 := hb_2.ne e_6
    have n_3__6 := hb_3.ne e_6
    have S := S.trans s_6
    have hb_2 := hb_2.sub s_6
    have hb_3 := hb_3.sub s_6
    refine RL.ev (.assign rfl) rfl rfl ?_
    refine RL.store sh97 rfl rfl rfl hb_6 (by exact Nat.le_of_ble_eq_true rfl) (by rfl) rfl (fun w5 z5 hb_6 a5 => ?_)
    have S := S.upd a5 ge_6
    have hb_2 := hb_2.upd a5 n_2__6
    have hb_3 := hb_3.upd a5 n_3__6
    have hb_6 : Has w5 b_6 (x.cells) _ := hb_6.now (by kernel_rfl)
    refine RL.nil (RC.back ?_)
    refine RC.seq ?_
    refine RC.draw rfl mxo (by kernel_rfl) ?_
    refine RQ.ev (.field0 fo97_0 rfl) rfl rfl ?_
    refine RQ.ev (.load1 sh3 rfl (hb_6.cell rfl)) rfl rfl ?_
    refine RQ.ev (.bin rfl rfl rfl) rfl rfl ?_
    refine RQ.ev (.move rfl) rfl rfl ?_
    refine RQ.split 30 rfl (fun h6 => ?_) (fun h6 => ?_)
    ·
      have hk : ¬ x.kind = 0 := h6
      have hy := hE.keep i x hx hk
      refine RQ.ev (.field0 fo34_0 rfl) rfl rfl ?_
      refine RQ.ev (.load1 sh31 rfl (hb_3.cell rfl)) rfl rfl ?_
      refine RQ.ev (.move rfl) rfl rfl ?_
      refine RQ.ev (.indexS sl31 rfl rfl (by omega) (hBn.is (i := 0) (by simp only [List.length_map, List.length_cons, List.length_nil]; omega))) rfl rfl ?_
      refine RQ.ev (.loadR (x.cells) sh97 rfl ((hBn.sub S).rowAt (enc := Node.cells) (i := i) hy) rfl) rfl rfl ?_
      refine RQ.ev (.loadR (x.cells) sh97 rfl hb_6.row rfl) rfl rfl ?_
      refine RQ.ev (.as (v' := .bool false) (.neS (xs := x.cells) (ys := x.cells) fk97 eg97 sh97 rfl rfl rfl rfl rfl) (congrArg Value.bool (by rw [eqL_cells]; simp))) rfl rfl ?_
      refine RQ.ev (.pick_t rfl rfl) rfl rfl ?_
      refine RQ.nil (fun w7 s8 => RC.back ?_)
      have S := S.trans s8
      have hb_2 := hb_2.sub s8
      have hb_3 := hb_3.sub s8
      have hb_6 := hb_6.sub s8
      refine RC.cond_f rfl ?_
      refine RC.skip (RC.back ?_)
      refine RC.region rfl ?_
      refine RL.ev (.as (.bin rfl rfl rfl) (wi64 (y := ((i + 1 : Nat) : Int)) (by omega) (by omega))) rfl rfl ?_
      refine RL.ev (.move rfl) rfl rfl ?_
      exact RL.nil (fun a ka => ⟨i + 1, ⟨by omega, hb_2, hb_3, S⟩, by omega, ka.keep (keep_of (by repeat (first | exact trivial | refine And.intro rfl ?_)))⟩)
    ·
      refine RQ.off rfl rfl ?_
      refine RQ.off rfl rfl ?_
      refine RQ.off rfl rfl ?_
      refine RQ.off rfl rfl ?_
      refine RQ.off rfl rfl ?_
      refine RQ.off rfl rfl ?_
      refine RQ.off rfl rfl ?_
      refine RQ.ev (.pick_f rfl rfl) rfl rfl ?_
      refine RQ.nil (fun w9 s10 => RC.back ?_)
      have S := S.trans s10
      have hb_2 := hb_2.sub s10
      have hb_3 := hb_3.sub s10
      have hb_6 := hb_6.sub s10
      refine RC.cond_f rfl ?_
      refine RC.skip (RC.back ?_)
      refine RC.region rfl ?_
      refine RL.ev (.as (.bin rfl rfl rfl) (wi64 (y := ((i + 1 : Nat) : Int)) (by omega) (by omega))) rfl rfl ?_
      refine RL.ev (.move rfl) rfl rfl ?_
      exact RL.nil (fun a ka => ⟨i + 1, ⟨by omega, hb_2, hb_3, S⟩, by omega, ka.keep (keep_of (by repeat (first | exact trivial | refine And.intro rfl ?_)))⟩)
  ·
    refine RC.exit rfl (RC.back ?_)
    refine RC.seq ?_
    refine RC.region rfl ?_
    refine RL.ev (.assign rfl) rfl rfl ?_
    refine RL.nil (RC.back ?_)
    refine RC.done (rs := [.tmp 4]) (vs := [_]) rfl rfl ⟨rfl, trivial⟩ ?_
    -- end 1
    exact ⟨rfl, S⟩
end Go.Proofs.Ytbfjobmebkhblaa
set_option linter.unusedVariables false
set_option linter.unusedSimpArgs false
namespace Go.Proofs.Ytbfjobmebkhblaa
open Go Go.XL
/-- each item has its leaf -/
theorem IsH.leaf {A : Ar} : ∀ {k : Nat} {r : Int} {L : List It}, IsH A k r L → ∀ z ∈ L, ∃ r', lfA A r' z
  | k, r, L, h => by
    rcases row_cases L with rfl | ⟨x, rfl⟩ | h2
    · intro z hz; cases hz
    · intro z hz; rw [List.mem_singleton.1 hz]; exact ⟨r, isH_one.1 h⟩
    · cases k with
      | zero =>
        obtain ⟨g, ks, m, q1, _, _, _, _, q6⟩ := (isH_clash h2).1 h
        intro z hz
        obtain ⟨i, hi⟩ := List.getElem?_of_mem (q1.mem_iff.2 hz)
        exact ⟨_, q6 i z hi⟩
      | succ k =>
        obtain ⟨g, ks, _, _, q3⟩ := (isH_trie h2).1 h
        intro z hz
        exact IsH.leaf (q3 (dig z.k (9 - k)) (dig_lt _ _)) z (ofL_mem.2 ⟨hz, rfl⟩)
theorem IsH.itok {A : Ar} {k : Nat} {r : Int} {L : List It} (h : IsH A k r L) (hn : ∀ x ∈ A.nodes, x.ok) : ∀ z ∈ L, z.ok := by
  intro z hz
  obtain ⟨r', g, hg⟩ := h.leaf z hz
  have := hn _ (getA_nok hg)
  exact ⟨this.n, this.v⟩
theorem shL_put {L : List It} (hap : Ap L) (key v k : Int) : shL k (putM L key v) + (if hashOf key = hashOf k ∧ hasK L key = true then 1 else 0) = shL k L + (if hashOf key = hashOf k then 1 else 0) := by
  have e1 : (delL L key).filter (fun x => decide (hashOf x.k = hashOf k)) = delL (L.filter fun x => decide (hashOf x.k = hashOf k)) key := by
    unfold delL; rw [List.filter_filter, List.filter_filter]; congr 1; funext x; exact Bool.and_comm _ _
  have e2 := delL_len (key := key) (hap.filter fun x => decide (hashOf x.k = hashOf k))
  have e3 : hasK (L.filter fun x => decide (hashOf x.k = hashOf k)) key = true ↔ hashOf key = hashOf k ∧ hasK L key = true := by
    rw [hasK_iff, hasK_iff]
    constructor
    · rintro ⟨x, hx, rfl⟩
      have := List.mem_filter.1 hx
      exact ⟨by simpa using this.2, x, this.1, rfl⟩
    · rintro ⟨h1, x, hx, rfl⟩
      exact ⟨x, List.mem_filter.2 ⟨hx, by simpa using h1⟩, rfl⟩
  have e4 : shL k (putM L key v) = (if hashOf key = hashOf k then 1 else 0) + (delL (L.filter fun x => decide (hashOf x.k = hashOf k)) key).length := by
    unfold shL putM
    rw [List.filter_cons, ← e1]
    by_cases q : hashOf key = hashOf k
    · rw [if_pos (by simpa using q), if_pos q, List.length_cons]; omega
    · rw [if_neg (by simpa using q), if_neg q]; omega
  have e5 : (if hasK (L.filter fun x => decide (hashOf x.k = hashOf k)) key = true then 1 else 0) = (if hashOf key = hashOf k ∧ hasK L key = true then 1 else 0) := by simp only [e3]
  rw [e5] at e2
  unfold shL at e4 ⊢
  omega
theorem fit_put {L : List It} (hap : Ap L) (h : ∀ k, shL k L ≤ 9) {key v : Int} (hb : hasK L key = true ∨ shL key L ≤ 8) : ∀ k, shL k (putM L key v) ≤ 9 := by
  intro k
  have h1 := shL_put hap key v k
  have h2 := h k
  by_cases q : hashOf key = hashOf k
  · have e : shL k L = shL key L := by unfold shL; rw [q]
    rcases hb with hb | hb
    · rw [if_pos ⟨q, hb⟩, if_pos q] at h1; omega
    · rw [if_pos q] at h1; omega
  · rw [if_neg q] at h1; omega
theorem fit_del {L : List It} (h : ∀ k, shL k L ≤ 9) (key : Int) : ∀ k, shL k (delL L key) ≤ 9 := fun k => Nat.le_trans (List.Sublist.filter _ List.filter_sublist).length_le (h k)
set_option maxHeartbeats 4000000 in
theorem law_HamtMakes (w : World) (A0 : Ar) (na fa : Option Addr) (nc fc : Nat) (hnc0 : A0.nodes.length ≤ nc) (hfc0 : A0.free.length ≤ fc) (hA0 : ArR w na fa A0) (r : Int) (wr : (Lit.int .u64 r).wf = true) (key : Int) (wk : (Lit.int .i64 key).wf = true) (v : Int) (wv : (Lit.int .i64 v).wf = true) :
    FC Try.prog 10 [arV na fa nc fc A0, .int .u64 r, .int .i64 key, .int .i64 v] w (Val (.bool true) w) := by
  have hr := wfU wr
  have hk := wfI wk
  have hv := wfI wv
  have hA := few130_R hA0
  have hn60 : (few130 A0).nodes.length ≤ 130 := by simp only [few130, List.length_take]; omega
  have hf62 : (few130 A0).free.length ≤ 132 := by simp only [few130, List.length_take]; omega
  have hnc : (few130 A0).nodes.length ≤ nc := by simp only [few130, List.length_take]; omega
  have hfc : (few130 A0).free.length ≤ fc := by simp only [few130, List.length_take]; omega
  obtain ⟨A, hAe⟩ : ∃ A, few130 A0 = A := ⟨_, rfl⟩
  rw [hAe] at hA hn60 hnc hfc hf62
  have hread := isTab_read (A := A) (r := r)
  obtain ⟨L, hL⟩ : ∃ L, (readT A r).2.1 = L := ⟨_, rfl⟩
  rw [hL] at hread
  have hF : Ft (· < w.heap.size) (fun u => ArR u na fa A) w := Ft.of_sub fun u s => hA.sub s
  have pp := putR_putM L key v
  have hcp := cnt_perm (k := 10) pp
  have hpl := putR_len L key v
  have hcl := cnt_le 10 (putR L key v)
  have hdl : (delL L key).length ≤ L.length := List.length_filter_le _ _
  have hcd := cnt_le 10 (delL L key)
  refine FC.intro Try.func10 rfl Try.ntmps10 rfl ?_
  have S := Sub.refl w
  refine RC.seq ?_
  refine RC.region rfl ?_
  refine RL.box rfl rfl rfl (fun b_4 w_4 e_4 z_4 hb_4 s_4 => ?_)
  have ge_4 := S.le e_4
  have S := S.trans s_4
  have hb_4 : Has w_4 b_4 ([.slice na A0.nodes.length nc, .slice fa A0.free.length fc]) _ := hb_4
  refine RL.ev (.assign rfl) rfl rfl ?_
  refine RL.nil (RC.back ?_)
  refine RC.seq ?_
  refine RC.region rfl ?_
  refine RL.ev (.loadR ([.slice na A0.nodes.length nc, .slice fa A0.free.length fc]) sh34 rfl hb_4.row rfl) rfl rfl ?_
  refine RL.call rfl ok37 ((hAe ▸ c_few9 A0 na fa nc fc hnc0 hfc0 w_4)) rfl rfl ?_
  rintro _ w1 ⟨rfl, s2⟩
  have S := S.trans s2
  have hb_4 := hb_4.sub s2
  refine RL.store sh34 rfl rfl rfl hb_4 (by exact Nat.le_of_ble_eq_true rfl) (by rfl) rfl (fun w3 z3 hb_4 a3 => ?_)
  have S := S.upd a3 ge_4
  have hb_4 : Has w3 b_4 ([.slice na A.nodes.length nc, .slice fa A.free.length fc]) _ := hb_4.now (by kernel_rfl)
  refine RL.nil (RC.back ?_)
  refine RC.seq ?_
  refine RC.seq ?_
  refine RC.region rfl ?_
  refine RL.ev (.loadR ([.slice na A.nodes.length nc, .slice fa A.free.length fc]) sh34 rfl hb_4.row rfl) rfl rfl ?_
  refine RL.ev (.move rfl) rfl rfl ?_
  refine RL.call rfl ok26 (c_right9 A na fa nc fc (by omega) r hr w3 (hA.sub S)) rfl rfl ?_
  rintro _ w4 ⟨rfl, s5⟩
  have S := S.trans s5
  have hb_4 := hb_4.sub s5
  refine RL.ev (.not rfl) rfl rfl ?_
  refine RL.nil (RC.back ?_)
  refine RC.cond rfl (fun h6 => ?_) (fun h6 => ?_)
  ·
    refine RC.seq ?_
    refine RC.region rfl ?_
    refine RL.call rfl ok31 (c_alive9 w4) rfl rfl ?_
    rintro _ w7 ⟨rfl, s8⟩
    have S := S.trans s8
    have hb_4 := hb_4.sub s8
    refine RL.ev (.assign rfl) rfl rfl ?_
    refine RL.nil (RC.back ?_)
    refine RC.done (rs := [.tmp 8]) (vs := [_]) rfl rfl ⟨rfl, trivial⟩ ?_
    -- end 1
    exact ⟨rfl, S⟩
  ·
    have hmap : isTab A r := (isTabB_iff A r).1 (by simpa using h6)
    obtain ⟨_, hL200, hap, hT⟩ := (hread hmap.1).1 hmap
    have hAok := hmap.1
    have hfitL : ∀ k, shL k L ≤ 9 := fun k => shL_9 (key := k) hT
    have hLok := hT.itok hA.nok
    have hapP := (hap.put (key := key) (v := v)).perm pp.symm
    have hokP : ∀ z ∈ putR L key v, z.ok := (fun z hz => (List.mem_cons.1 (pp.mem_iff.1 hz)).elim (fun e => e ▸ ⟨hk, hv⟩) (fun h => hLok z (delL_mem.1 h).1))
    refine RC.skip (RC.back ?_)
    refine RC.seq ?_
    refine RC.region rfl ?_
    refine RL.ev (.loadR ([.slice na A.nodes.length nc, .slice fa A.free.length fc]) sh34 rfl hb_4.row rfl) rfl rfl ?_
    refine RL.ev (.move rfl) rfl rfl ?_
    refine RL.call rfl ok28 (c_row9 A na fa nc fc (by omega) r hr w4 (hA.sub S)) rfl rfl ?_
    rintro vr w9 ⟨s10, ra, rc, hvr, hl, hrc, _⟩
    have S := S.trans s10
    have hb_4 := hb_4.sub s10
    rw [hL] at hvr hl hrc
    subst hvr
    obtain ⟨W1, S1, hl⟩ : ∃ W1, Sub W1 w9 ∧ Sl W1 ra 2 (L.map It.cells) := ⟨_, Sub.refl _, hl⟩
    refine RL.ev (.assign rfl) rfl rfl ?_
    refine RL.nil (RC.back ?_)
    refine RC.seq ?_
    refine RC.region rfl ?_
    refine RL.ev (.loadR ([.slice na A.nodes.length nc, .slice fa A.free.length fc]) sh34 rfl hb_4.row rfl) rfl rfl ?_
    refine RL.ev (.move rfl) rfl rfl ?_
    refine RL.ev (.move rfl) rfl rfl ?_
    refine RL.ev (.move rfl) rfl rfl ?_
    refine RL.call rfl ok30 (c_hPut A na fa nc fc hnc hfc r key v hr hk hv _ w9 (hF.sub S)) rfl rfl ?_
    rintro _ w11 ⟨s12, na1, fa1, nc1, fc1, B1, r1, e1, M1, rfl, hu1, hnc1, hfc1, hA1, _, hp1⟩
    have S := S.trans s12
    have hb_4 := hb_4.sub s12
    have S1 := S1.trans s12
    have hP1 := put_twoH hp1 hmap hT hap
    obtain ⟨W2, S2, hA1⟩ : ∃ W2, Sub W2 w11 ∧ ArR W2 na1 fa1 B1 := ⟨_, Sub.refl _, hA1.now⟩
    refine RL.ev (.move rfl) rfl rfl ?_
    refine RL.ev (.extract rfl rfl) rfl rfl ?_
    refine RL.ev (.extract rfl rfl) rfl rfl ?_
    refine RL.ev (.extract rfl rfl) rfl rfl ?_
    refine RL.alloc ze34 rfl rfl (fun b_10 w_10 e_10 z_10 hb_10 s_10 => ?_)
    have ge_10 := S.le e_10
    have n_4__10 := hb_4.ne e_10
    have S := S.trans s_10
    have hb_4 := hb_4.sub s_10
    have geS1_10 := S1.le e_10
    have S1 := S1.trans s_10
    have geS2_10 := S2.le e_10
    have S2 := S2.trans s_10
    refine RL.store sh34 rfl rfl rfl hb_10 (by exact Nat.le_of_ble_eq_true rfl) (by rfl) rfl (fun w13 z13 hb_10 a13 => ?_)
    have S := S.upd a13 ge_10
    have hb_4 := hb_4.upd a13 n_4__10
    have S1 := S1.upd a13 geS1_10
    have S2 := S2.upd a13 geS2_10
    have hb_10 : Has w13 b_10 ([.slice na1 B1.nodes.length nc1, .slice fa1 B1.free.length fc1]) _ := hb_10.now (by kernel_rfl)
    refine RL.ev (.assign rfl) rfl rfl ?_
    refine RL.ev (.assign rfl) rfl rfl ?_
    refine RL.nil (RC.back ?_)
    refine RC.seq ?_
    refine RC.region rfl ?_
    refine RL.ev (.loadR ([.slice na A.nodes.length nc, .slice fa A.free.length fc]) sh34 rfl hb_4.row rfl) rfl rfl ?_
    refine RL.ev (.move rfl) rfl rfl ?_
    refine RL.ev (.move rfl) rfl rfl ?_
    refine RL.call rfl ok38 (c_hDel A na fa nc fc hnc hfc r key hr hk _ w13 (hF.sub S)) rfl rfl ?_
    rintro _ w14 ⟨s15, na2, fa2, nc2, fc2, B2, r2, e2, M2, rfl, hu2, hnc2, hfc2, hA2, _, hp2⟩
    have S := S.trans s15
    have hb_4 := hb_4.sub s15
    have S1 := S1.trans s15
    have S2 := S2.trans s15
    have hb_10 := hb_10.sub s15
    have hP2 := del_twoH hp2 hmap hT hap
    obtain ⟨W3, S3, hA2⟩ : ∃ W3, Sub W3 w14 ∧ ArR W3 na2 fa2 B2 := ⟨_, Sub.refl _, hA2.now⟩
    refine RL.ev (.move rfl) rfl rfl ?_
    refine RL.ev (.extract rfl rfl) rfl rfl ?_
    refine RL.ev (.extract rfl rfl) rfl rfl ?_
    refine RL.ev (.extract rfl rfl) rfl rfl ?_
    refine RL.alloc ze34 rfl rfl (fun b_13 w_13 e_13 z_13 hb_13 s_13 => ?_)
    have ge_13 := S.le e_13
    have n_4__13 := hb_4.ne e_13
    have n_10__13 := hb_10.ne e_13
    have S := S.trans s_13
    have hb_4 := hb_4.sub s_13
    have geS1_13 := S1.le e_13
    have S1 := S1.trans s_13
    have geS2_13 := S2.le e_13
    have S2 := S2.trans s_13
    have hb_10 := hb_10.sub s_13
    have geS3_13 := S3.le e_13
    have S3 := S3.trans s_13
    refine RL.store sh34 rfl rfl rfl hb_13 (by exact Nat.le_of_ble_eq_true rfl) (by rfl) rfl (fun w16 z16 hb_13 a16 => ?_)
    have S := S.upd a16 ge_13
    have hb_4 := hb_4.upd a16 n_4__13
    have S1 := S1.upd a16 geS1_13
    have S2 := S2.upd a16 geS2_13
    have hb_10 := hb_10.upd a16 n_10__13
    have S3 := S3.upd a16 geS3_13
    have hb_13 : Has w16 b_13 ([.slice na2 B2.nodes.length nc2, .slice fa2 B2.free.length fc2]) _ := hb_13.now (by kernel_rfl)
    refine RL.ev (.assign rfl) rfl rfl ?_
    refine RL.ev (.assign rfl) rfl rfl ?_
    refine RL.nil (RC.back ?_)
    refine RC.seq ?_
    refine RC.region rfl ?_
    refine RL.ev (.move rfl) rfl rfl ?_
    refine RL.ev (.move rfl) rfl rfl ?_
    refine RL.call rfl ok20 (c_refAt6 L ra rc _ rfl key w16 (hl.sub S1) (by omega)) rfl rfl ?_
    rintro _ w17 ⟨s18, n1, rfl, hn1⟩
    have S := S.trans s18
    have hb_4 := hb_4.sub s18
    have S1 := S1.trans s18
    have S2 := S2.trans s18
    have hb_10 := hb_10.sub s18
    have S3 := S3.trans s18
    have hb_13 := hb_13.sub s18
    refine RL.ev (.as (v' := .bool (hasK L key)) (.bin rfl rfl rfl) (by rcases hn1 with h | h; (rw [h.2]; exact congrArg Value.bool (decide_eq_false (by omega))); (rw [h.2.1]; exact congrArg Value.bool (decide_eq_true (by omega))))) rfl rfl ?_
    refine RL.ev (.assign rfl) rfl rfl ?_
    refine RL.nil (RC.back ?_)
    refine RC.cutx (α := Unit) (fun _ => [(1, .int .u64 r), (2, .int .i64 key), (3, .int .i64 v), (4, .pointer (some ⟨b_4, 0, none⟩)), (9, .slice ra L.length rc), (13, .pointer (some ⟨b_13, 0, none⟩)), (14, .int .u64 r2), (15, .int .i64 e2), (16, .bool (hasK L key))]) (fun _ w19 => Has w19 b_4 [.slice na A.nodes.length nc, .slice fa A.free.length fc] 34 ∧ Has w19 b_13 [.slice na2 B2.nodes.length nc2, .slice fa2 B2.free.length fc2] 34 ∧ Sub W1 w19 ∧ Sub W3 w19 ∧ Sub w w19) ?_ (fun _ w19 hJ => ?_)
    ·
      refine RC.seq ?_
      refine RC.region rfl ?_
      refine RL.ev (.move rfl) rfl rfl ?_
      refine RL.ev (.bin rfl rfl rfl) rfl rfl ?_
      refine RL.ev (.move rfl) rfl rfl ?_
      refine RL.split 52 rfl (fun h20 => ?_) (fun h20 => ?_)
      ·
        have hbad : BadH L key := .inl h20
        have hz1 := hP1.1 hbad
        refine RL.off rfl rfl ?_
        refine RL.off rfl rfl ?_
        refine RL.ev (.pick_t rfl rfl) rfl rfl ?_
        refine RL.ev (.move rfl) rfl rfl ?_
        refine RL.off rfl rfl ?_
        refine RL.off rfl rfl ?_
        refine RL.off rfl rfl ?_
        refine RL.off rfl rfl ?_
        refine RL.off rfl rfl ?_
        refine RL.off rfl rfl ?_
        refine RL.off rfl rfl ?_
        refine RL.off rfl rfl ?_
        refine RL.off rfl rfl ?_
        refine RL.off rfl rfl ?_
        refine RL.off rfl rfl ?_
        refine RL.off rfl rfl ?_
        refine RL.off rfl rfl ?_
        refine RL.ev (.pick_t rfl rfl) rfl rfl ?_
        refine RL.nil (RC.back ?_)
        refine RC.cond_t rfl ?_
        refine RC.seq ?_
        refine RC.region rfl ?_
        refine RL.ev (.move rfl) rfl rfl ?_
        refine RL.ev (.as (v' := .bool false) (.bin rfl rfl rfl) (congrArg Value.bool (decide_eq_false (fun h => h hz1.1)))) rfl rfl ?_
        refine RL.ev (.move rfl) rfl rfl ?_
        refine RL.ev (.move rfl) rfl rfl ?_
        refine RL.ev (.as (v' := .bool false) (.bin rfl rfl rfl) (congrArg Value.bool (decide_eq_false (fun h => h hz1.2)))) rfl rfl ?_
        refine RL.ev (.pick_f rfl rfl) rfl rfl ?_
        refine RL.nil (RC.back ?_)
        refine RC.cond_f rfl ?_
        exact RC.skip (fun a ka => ⟨(), ⟨hb_4, hb_13, S1, S3, S⟩, ka.keep (keep_of (by repeat (first | exact trivial | refine And.intro rfl ?_)))⟩)
      ·
        have h80 := h20
        refine RL.ev (.move rfl) rfl rfl ?_
        refine RL.ev (.bin rfl rfl rfl) rfl rfl ?_
        refine RL.ev (.pick_f rfl rfl) rfl rfl ?_
        refine RL.ev (.move rfl) rfl rfl ?_
        refine RL.split 56 rfl (fun h21 => ?_) (fun h21 => ?_)
        ·
          have hbad : BadH L key := .inr (.inl h21)
          have hz1 := hP1.1 hbad
          refine RL.off rfl rfl ?_
          refine RL.off rfl rfl ?_
          refine RL.off rfl rfl ?_
          refine RL.off rfl rfl ?_
          refine RL.off rfl rfl ?_
          refine RL.off rfl rfl ?_
          refine RL.off rfl rfl ?_
          refine RL.off rfl rfl ?_
          refine RL.off rfl rfl ?_
          refine RL.off rfl rfl ?_
          refine RL.off rfl rfl ?_
          refine RL.off rfl rfl ?_
          refine RL.off rfl rfl ?_
          refine RL.ev (.pick_t rfl rfl) rfl rfl ?_
          refine RL.nil (RC.back ?_)
          refine RC.cond_t rfl ?_
          refine RC.seq ?_
          refine RC.region rfl ?_
          refine RL.ev (.move rfl) rfl rfl ?_
          refine RL.ev (.as (v' := .bool false) (.bin rfl rfl rfl) (congrArg Value.bool (decide_eq_false (fun h => h hz1.1)))) rfl rfl ?_
          refine RL.ev (.move rfl) rfl rfl ?_
          refine RL.ev (.move rfl) rfl rfl ?_
          refine RL.ev (.as (v' := .bool false) (.bin rfl rfl rfl) (congrArg Value.bool (decide_eq_false (fun h => h hz1.2)))) rfl rfl ?_
          refine RL.ev (.pick_f rfl rfl) rfl rfl ?_
          refine RL.nil (RC.back ?_)
          refine RC.cond_f rfl ?_
          exact RC.skip (fun a ka => ⟨(), ⟨hb_4, hb_13, S1, S3, S⟩, ka.keep (keep_of (by repeat (first | exact trivial | refine And.intro rfl ?_)))⟩)
        ·
          have h84 := h21
          refine RL.ev (.move rfl) rfl rfl ?_
          refine RL.ev (.not rfl) rfl rfl ?_
          refine RL.ev (.move rfl) rfl rfl ?_
          refine RL.splitB 59 rfl (fun h22 => ?_) (fun h22 => ?_)
          ·
            have h89 : hasK L key = false := (by have := h22; simpa using this)
            refine RL.ev (.move rfl) rfl rfl ?_
            refine RL.ev (.len sl26 rfl) rfl rfl ?_
            refine RL.ev (.bin rfl rfl rfl) rfl rfl ?_
            refine RL.ev (.move rfl) rfl rfl ?_
            refine RL.split 63 rfl (fun h23 => ?_) (fun h23 => ?_)
            ·
              have hbad : BadH L key := .inr (.inr ⟨h89, .inl (by have := h23; omega)⟩)
              have hz1 := hP1.1 hbad
              refine RL.off rfl rfl ?_
              refine RL.off rfl rfl ?_
              refine RL.off rfl rfl ?_
              refine RL.off rfl rfl ?_
              refine RL.ev (.pick_t rfl rfl) rfl rfl ?_
              refine RL.ev (.pick_t rfl rfl) rfl rfl ?_
              refine RL.ev (.pick_f rfl rfl) rfl rfl ?_
              refine RL.nil (RC.back ?_)
              refine RC.cond_t rfl ?_
              refine RC.seq ?_
              refine RC.region rfl ?_
              refine RL.ev (.move rfl) rfl rfl ?_
              refine RL.ev (.as (v' := .bool false) (.bin rfl rfl rfl) (congrArg Value.bool (decide_eq_false (fun h => h hz1.1)))) rfl rfl ?_
              refine RL.ev (.move rfl) rfl rfl ?_
              refine RL.ev (.move rfl) rfl rfl ?_
              refine RL.ev (.as (v' := .bool false) (.bin rfl rfl rfl) (congrArg Value.bool (decide_eq_false (fun h => h hz1.2)))) rfl rfl ?_
              refine RL.ev (.pick_f rfl rfl) rfl rfl ?_
              refine RL.nil (RC.back ?_)
              refine RC.cond_f rfl ?_
              exact RC.skip (fun a ka => ⟨(), ⟨hb_4, hb_13, S1, S3, S⟩, ka.keep (keep_of (by repeat (first | exact trivial | refine And.intro rfl ?_)))⟩)
            ·
              have h91 := h23
              refine RL.ev (.move rfl) rfl rfl ?_
              refine RL.ev (.move rfl) rfl rfl ?_
              refine RL.call rfl ok17 (c_refCrowd L ra rc _ rfl key w17 (hl.sub S1) (by omega)) rfl rfl ?_
              rintro _ w24 ⟨rfl, s25⟩
              have S := S.trans s25
              have hb_4 := hb_4.sub s25
              have S1 := S1.trans s25
              have S2 := S2.trans s25
              have hb_10 := hb_10.sub s25
              have S3 := S3.trans s25
              have hb_13 := hb_13.sub s25
              refine RL.ev (.bin rfl rfl rfl) rfl rfl ?_
              refine RL.ev (.pick_f rfl rfl) rfl rfl ?_
              refine RL.ev (.pick_t rfl rfl) rfl rfl ?_
              refine RL.ev (.pick_f rfl rfl) rfl rfl ?_
              refine RL.nil (RC.back ?_)
              refine RC.cond_dec rfl (fun h26 => ?_) (fun h26 => ?_)
              ·
                have hbad : BadH L key := .inr (.inr ⟨h89, .inr (by have := h26; omega)⟩)
                have hz1 := hP1.1 hbad
                refine RC.seq ?_
                refine RC.region rfl ?_
                refine RL.ev (.move rfl) rfl rfl ?_
                refine RL.ev (.as (v' := .bool false) (.bin rfl rfl rfl) (congrArg Value.bool (decide_eq_false (fun h => h hz1.1)))) rfl rfl ?_
                refine RL.ev (.move rfl) rfl rfl ?_
                refine RL.ev (.move rfl) rfl rfl ?_
                refine RL.ev (.as (v' := .bool false) (.bin rfl rfl rfl) (congrArg Value.bool (decide_eq_false (fun h => h hz1.2)))) rfl rfl ?_
                refine RL.ev (.pick_f rfl rfl) rfl rfl ?_
                refine RL.nil (RC.back ?_)
                refine RC.cond_f rfl ?_
                exact RC.skip (fun a ka => ⟨(), ⟨hb_4, hb_13, S1, S3, S⟩, ka.keep (keep_of (by repeat (first | exact trivial | refine And.intro rfl ?_)))⟩)
              ·
                have h92 := h26
                have h93 := hfitL key
                have hnb : ¬ BadH L key := fun h => h.elim h80 (fun h => h.elim h84 (fun h => h.2.elim (fun h => by omega) (fun h => by omega)))
                have hfitP := fit_put (key := key) (v := v) hap hfitL (.inr (by omega))
                refine RC.seq ?_
                refine RC.region rfl ?_
                refine RL.ev (.move rfl) rfl rfl ?_
                refine RL.ev (.move rfl) rfl rfl ?_
                refine RL.ev (.move rfl) rfl rfl ?_
                refine RL.call rfl ok16 (c_refPut L ra rc _ rfl key v w24 (hl.sub S1) (by omega)) rfl rfl ?_
                rintro _ w27 ⟨qa, qc, rfl, o6, s28⟩
                have S := S.trans s28
                have hb_4 := hb_4.sub s28
                have S1 := S1.trans s28
                have S2 := S2.trans s28
                have hb_10 := hb_10.sub s28
                have S3 := S3.trans s28
                have hb_13 := hb_13.sub s28
                obtain ⟨W6, S6, hq⟩ : ∃ W6, Sub W6 w27 ∧ Sl W6 qa 2 ((putR L key v).map It.cells) := ⟨_, Sub.refl _, o6.sl.1⟩
                refine RL.ev (.assign rfl) rfl rfl ?_
                refine RL.nil (RC.back ?_)
                refine RC.seq ?_
                refine RC.drawD (fun k => False) [] w27.heap.size 29 rfl rfl mxo (fun w29 s30 => ?_)
                have hNN : ∀ k, ((False) ∨ w27.heap.size ≤ k) → w.heap.size ≤ k := fun k e => e.elim (fun e => e.elim) (fun e => Nat.le_trans S.size e)
                have ent_S := S.size
                have ent_S1 := S1.size
                have ent_S2 := S2.size
                have ent_S3 := S3.size
                have ent_S6 := S6.size
                have hN0 : ∀ k, w27.heap.size ≤ k → w.heap.size ≤ k := fun k e => Nat.le_trans S.size e
                have ltD_b_4 := hb_4.lt
                have ltD_b_10 := hb_10.lt
                have ltD_b_13 := hb_13.lt
                have szD := Nat.le_refl w27.heap.size
                have S := S.trans s30
                have hb_4 := hb_4.sub s30
                have S1 := S1.trans s30
                have S2 := S2.trans s30
                have hb_10 := hb_10.sub s30
                have S3 := S3.trans s30
                have hb_13 := hb_13.sub s30
                have S6 := S6.trans s30
                have szD := Nat.le_trans szD s30.size
                refine RD.take 0 rfl (by kernel_rfl) (by kernel_rfl) (by kernel_rfl) (fun w' s' => .move rfl) rfl rfl ?_
                refine RD.take 1 rfl (by kernel_rfl) (by kernel_rfl) (by kernel_rfl) (fun w' s' => .bin rfl rfl rfl) rfl rfl ?_
                refine RD.take 2 rfl (by kernel_rfl) (by kernel_rfl) (by kernel_rfl) (fun w' s' => .move rfl) rfl rfl ?_
                refine RD.split 83 rfl (fun h31 => ?_) (fun h31 => ?_)
                ·
                  have he1 : e1 = 0 := h31
                  obtain ⟨_, hE1, hok1, _, hT1⟩ := (hP1.2 hnb).resolve_left (fun h => by omega)
                  have hm1 := hok1.most
                  refine RD.take 3 rfl (by kernel_rfl) (by kernel_rfl) (by kernel_rfl) (fun w' s' => .loadR ([.slice na1 B1.nodes.length nc1, .slice fa1 B1.free.length fc1]) sh34 rfl (hb_10.step s' (fun e => e.elim (fun e => e.elim) (fun e => Nat.not_le.2 ltD_b_10 e))).row rfl) rfl rfl ?_
                  refine RD.take 4 rfl (by kernel_rfl) (by kernel_rfl) (by kernel_rfl) (fun w' s' => .move rfl) rfl rfl ?_
                  refine RD.take 5 rfl (by kernel_rfl) (by kernel_rfl) (by kernel_rfl) (fun w' s' => .move rfl) rfl rfl ?_
                  refine RD.all [6] (by kernel_rfl) rfl (RDs.cons rfl ?_ (RDs.nil))
                  refine RL.call rfl ok32 (c_isYesH B1 na1 fa1 nc1 fc1 (by omega) r1 (putM L key v) (putR L key v) pp.symm qa qc _ hapP (List.length_map _) hu1 (by omega) hT1 w29 (hA1.sub S2) (hq.sub S6)) rfl rfl ?_
                  rintro _ w32 ⟨rfl, s33⟩
                  have S := S.trans s33
                  have hb_4 := hb_4.sub s33
                  have S1 := S1.trans s33
                  have S2 := S2.trans s33
                  have hb_10 := hb_10.sub s33
                  have S3 := S3.trans s33
                  have hb_13 := hb_13.sub s33
                  have S6 := S6.trans s33
                  have szD := Nat.le_trans szD s33.size
                  refine RD.back s33.agr ?_
                  refine RD.take 7 rfl (by kernel_rfl) (by kernel_rfl) (by kernel_rfl) (fun w' s' => .pick_t rfl rfl) rfl rfl ?_
                  refine RD.take 8 rfl (by kernel_rfl) (by kernel_rfl) (by kernel_rfl) (fun w' s' => .move rfl) rfl rfl ?_
                  refine RD.take 9 rfl (by kernel_rfl) (by kernel_rfl) (by kernel_rfl) (fun w' s' => .loadR ([.slice na A.nodes.length nc, .slice fa A.free.length fc]) sh34 rfl (hb_4.step s' (fun e => e.elim (fun e => e.elim) (fun e => Nat.not_le.2 ltD_b_4 e))).row rfl) rfl rfl ?_
                  refine RD.take 10 rfl (by kernel_rfl) (by kernel_rfl) (by kernel_rfl) (fun w' s' => .loadR ([.slice na1 B1.nodes.length nc1, .slice fa1 B1.free.length fc1]) sh34 rfl (hb_10.step s' (fun e => e.elim (fun e => e.elim) (fun e => Nat.not_le.2 ltD_b_10 e))).row rfl) rfl rfl ?_
                  refine RD.all [11] (by kernel_rfl) rfl (RDs.cons rfl ?_ (RDs.nil))
                  refine RL.call rfl ok39 (c_kept9 A B1 na fa na1 fa1 nc fc nc1 fc1 w32 (hA.sub S) (hA1.sub S2) hE1 hok1) rfl rfl ?_
                  rintro _ w34 ⟨rfl, s35⟩
                  have S := S.trans s35
                  have hb_4 := hb_4.sub s35
                  have S1 := S1.trans s35
                  have S2 := S2.trans s35
                  have hb_10 := hb_10.sub s35
                  have S3 := S3.trans s35
                  have hb_13 := hb_13.sub s35
                  have S6 := S6.trans s35
                  have szD := Nat.le_trans szD s35.size
                  refine RD.back s35.agr ?_
                  refine RD.take 12 rfl (by kernel_rfl) (by kernel_rfl) (by kernel_rfl) (fun w' s' => .pick_t rfl rfl) rfl rfl ?_
                  refine RD.take 13 rfl (by kernel_rfl) (by kernel_rfl) (by kernel_rfl) (fun w' s' => .not rfl) rfl rfl ?_
                  refine RD.take 14 rfl (by kernel_rfl) (by kernel_rfl) (by kernel_rfl) (fun w' s' => .move rfl) rfl rfl ?_
                  refine RD.takeOff 15 rfl (by kernel_rfl) (by kernel_rfl) (by kernel_rfl) rfl rfl ?_
                  refine RD.takeOff 16 rfl (by kernel_rfl) (by kernel_rfl) (by kernel_rfl) rfl rfl ?_
                  refine RD.takeOff 17 rfl (by kernel_rfl) (by kernel_rfl) (by kernel_rfl) rfl rfl ?_
                  refine RD.takeOff 18 rfl (by kernel_rfl) (by kernel_rfl) (by kernel_rfl) rfl rfl ?_
                  refine RD.takeOff 19 rfl (by kernel_rfl) (by kernel_rfl) (by kernel_rfl) rfl rfl ?_
                  refine RD.takeOff 20 rfl (by kernel_rfl) (by kernel_rfl) (by kernel_rfl) rfl rfl ?_
                  refine RD.takeOff 21 rfl (by kernel_rfl) (by kernel_rfl) (by kernel_rfl) rfl rfl ?_
                  refine RD.takeOff 22 rfl (by kernel_rfl) (by kernel_rfl) (by kernel_rfl) rfl rfl ?_
                  refine RD.takeOff 23 rfl (by kernel_rfl) (by kernel_rfl) (by kernel_rfl) rfl rfl ?_
                  refine RD.takeOff 24 rfl (by kernel_rfl) (by kernel_rfl) (by kernel_rfl) rfl rfl ?_
                  refine RD.takeOff 25 rfl (by kernel_rfl) (by kernel_rfl) (by kernel_rfl) rfl rfl ?_
                  refine RD.takeOff 26 rfl (by kernel_rfl) (by kernel_rfl) (by kernel_rfl) rfl rfl ?_
                  refine RD.takeOff 27 rfl (by kernel_rfl) (by kernel_rfl) (by kernel_rfl) rfl rfl ?_
                  refine RD.take 28 rfl (by kernel_rfl) (by kernel_rfl) (by kernel_rfl) (fun w' s' => .pick_f rfl rfl) rfl rfl ?_
                  refine RD.done (by kernel_rfl) (RC.back ?_)
                  refine RC.cond_f rfl ?_
                  exact RC.skip (fun a ka => ⟨(), ⟨hb_4, hb_13, S1, S3, S⟩, ka.keep (keep_of (by repeat (first | exact trivial | refine And.intro rfl ?_)))⟩)
                ·
                  have he1 : ¬ e1 = 0 := h31
                  have hfull1 := (hP1.2 hnb).resolve_right (fun h => he1 h.1)
                  refine RD.takeOff 3 rfl (by kernel_rfl) (by kernel_rfl) (by kernel_rfl) rfl rfl ?_
                  refine RD.takeOff 4 rfl (by kernel_rfl) (by kernel_rfl) (by kernel_rfl) rfl rfl ?_
                  refine RD.takeOff 5 rfl (by kernel_rfl) (by kernel_rfl) (by kernel_rfl) rfl rfl ?_
                  refine RD.takeOff 6 rfl (by kernel_rfl) (by kernel_rfl) (by kernel_rfl) rfl rfl ?_
                  refine RD.take 7 rfl (by kernel_rfl) (by kernel_rfl) (by kernel_rfl) (fun w' s' => .pick_f rfl rfl) rfl rfl ?_
                  refine RD.take 8 rfl (by kernel_rfl) (by kernel_rfl) (by kernel_rfl) (fun w' s' => .move rfl) rfl rfl ?_
                  refine RD.takeOff 9 rfl (by kernel_rfl) (by kernel_rfl) (by kernel_rfl) rfl rfl ?_
                  refine RD.takeOff 10 rfl (by kernel_rfl) (by kernel_rfl) (by kernel_rfl) rfl rfl ?_
                  refine RD.takeOff 11 rfl (by kernel_rfl) (by kernel_rfl) (by kernel_rfl) rfl rfl ?_
                  refine RD.take 12 rfl (by kernel_rfl) (by kernel_rfl) (by kernel_rfl) (fun w' s' => .pick_f rfl rfl) rfl rfl ?_
                  refine RD.take 13 rfl (by kernel_rfl) (by kernel_rfl) (by kernel_rfl) (fun w' s' => .not rfl) rfl rfl ?_
                  refine RD.take 14 rfl (by kernel_rfl) (by kernel_rfl) (by kernel_rfl) (fun w' s' => .move rfl) rfl rfl ?_
                  refine RD.take 15 rfl (by kernel_rfl) (by kernel_rfl) (by kernel_rfl) (fun w' s' => .move rfl) rfl rfl ?_
                  refine RD.take 16 rfl (by kernel_rfl) (by kernel_rfl) (by kernel_rfl) (fun w' s' => .as (v' := .bool true) (.bin rfl rfl rfl) (congrArg Value.bool (decide_eq_true (hfull1.1)))) rfl rfl ?_
                  refine RD.take 17 rfl (by kernel_rfl) (by kernel_rfl) (by kernel_rfl) (fun w' s' => .move rfl) rfl rfl ?_
                  refine RD.take 18 rfl (by kernel_rfl) (by kernel_rfl) (by kernel_rfl) (fun w' s' => .field0 fo34_1 rfl) rfl rfl ?_
                  refine RD.take 19 rfl (by kernel_rfl) (by kernel_rfl) (by kernel_rfl) (fun w' s' => .load1 sh32 rfl ((hb_4.step s' (fun e => e.elim (fun e => e.elim) (fun e => Nat.not_le.2 ltD_b_4 e))).cell rfl)) rfl rfl ?_
                  refine RD.take 20 rfl (by kernel_rfl) (by kernel_rfl) (by kernel_rfl) (fun w' s' => .len sl32 rfl) rfl rfl ?_
                  refine RD.take 21 rfl (by kernel_rfl) (by kernel_rfl) (by kernel_rfl) (fun w' s' => .move rfl) rfl rfl ?_
                  refine RD.all [22] (by kernel_rfl) rfl (RDs.cons rfl ?_ (RDs.nil))
                  refine RL.call rfl ok34 (c_many9 (putR L key v) qa qc _ (List.length_map _) hapP (fun x _ => Nat.le_trans (Nat.le_of_eq (shL_perm pp)) (hfitP x.k)) hokP (by omega) w29 (hq.sub S6)) rfl rfl ?_
                  rintro _ w36 ⟨rfl, s37⟩
                  have S := S.trans s37
                  have hb_4 := hb_4.sub s37
                  have S1 := S1.trans s37
                  have S2 := S2.trans s37
                  have hb_10 := hb_10.sub s37
                  have S3 := S3.trans s37
                  have hb_13 := hb_13.sub s37
                  have S6 := S6.trans s37
                  have szD := Nat.le_trans szD s37.size
                  refine RD.back s37.agr ?_
                  refine RD.take 23 rfl (by kernel_rfl) (by kernel_rfl) (by kernel_rfl) (fun w' s' => .as (.bin rfl rfl rfl) (wi64 (y := ((2 * cnt 10 (putR L key v) : Nat) : Int)) (by omega) (by omega))) rfl rfl ?_
                  refine RD.take 24 rfl (by kernel_rfl) (by kernel_rfl) (by kernel_rfl) (fun w' s' => .as (.bin rfl rfl rfl) (wi64 (y := ((2 * cnt 10 (putR L key v) + 1 : Nat) : Int)) (by omega) (by omega))) rfl rfl ?_
                  refine RD.take 25 rfl (by kernel_rfl) (by kernel_rfl) (by kernel_rfl) (fun w' s' => .as (v' := .bool true) (.bin rfl rfl rfl) (congrArg Value.bool (decide_eq_true (by omega)))) rfl rfl ?_
                  refine RD.take 26 rfl (by kernel_rfl) (by kernel_rfl) (by kernel_rfl) (fun w' s' => .pick_t rfl rfl) rfl rfl ?_
                  refine RD.take 27 rfl (by kernel_rfl) (by kernel_rfl) (by kernel_rfl) (fun w' s' => .not rfl) rfl rfl ?_
                  refine RD.take 28 rfl (by kernel_rfl) (by kernel_rfl) (by kernel_rfl) (fun w' s' => .pick_t rfl rfl) rfl rfl ?_
                  refine RD.done (by kernel_rfl) (RC.back ?_)
                  refine RC.cond_f rfl ?_
                  exact RC.skip (fun a ka => ⟨(), ⟨hb_4, hb_13, S1, S3, S⟩, ka.keep (keep_of (by repeat (first | exact trivial | refine And.intro rfl ?_)))⟩)
          ·
            have h89 : hasK L key = true := (by have := h22; simpa using this)
            have hnb : ¬ BadH L key := fun h => h.elim h80 (fun h => h.elim h84 (fun h => by rw [h89] at h; cases h.1))
            have hfitP := fit_put (key := key) (v := v) hap hfitL (.inl h89)
            refine RL.off rfl rfl ?_
            refine RL.off rfl rfl ?_
            refine RL.off rfl rfl ?_
            refine RL.off rfl rfl ?_
            refine RL.off rfl rfl ?_
            refine RL.off rfl rfl ?_
            refine RL.off rfl rfl ?_
            refine RL.off rfl rfl ?_
            refine RL.off rfl rfl ?_
            refine RL.ev (.pick_f rfl rfl) rfl rfl ?_
            refine RL.ev (.pick_f rfl rfl) rfl rfl ?_
            refine RL.nil (RC.back ?_)
            refine RC.cond_f rfl ?_
            refine RC.seq ?_
            refine RC.region rfl ?_
            refine RL.ev (.move rfl) rfl rfl ?_
            refine RL.ev (.move rfl) rfl rfl ?_
            refine RL.ev (.move rfl) rfl rfl ?_
            refine RL.call rfl ok16 (c_refPut L ra rc _ rfl key v w17 (hl.sub S1) (by omega)) rfl rfl ?_
            rintro _ w38 ⟨qa, qc, rfl, o6, s39⟩
            have S := S.trans s39
            have hb_4 := hb_4.sub s39
            have S1 := S1.trans s39
            have S2 := S2.trans s39
            have hb_10 := hb_10.sub s39
            have S3 := S3.trans s39
            have hb_13 := hb_13.sub s39
            obtain ⟨W6, S6, hq⟩ : ∃ W6, Sub W6 w38 ∧ Sl W6 qa 2 ((putR L key v).map It.cells) := ⟨_, Sub.refl _, o6.sl.1⟩
            refine RL.ev (.assign rfl) rfl rfl ?_
            refine RL.nil (RC.back ?_)
            refine RC.seq ?_
            refine RC.drawD (fun k => False) [] w38.heap.size 29 rfl rfl mxo (fun w40 s41 => ?_)
            have hNN : ∀ k, ((False) ∨ w38.heap.size ≤ k) → w.heap.size ≤ k := fun k e => e.elim (fun e => e.elim) (fun e => Nat.le_trans S.size e)
            have ent_S := S.size
            have ent_S1 := S1.size
            have ent_S2 := S2.size
            have ent_S3 := S3.size
            have ent_S6 := S6.size
            have hN0 : ∀ k, w38.heap.size ≤ k → w.heap.size ≤ k := fun k e => Nat.le_trans S.size e
            have ltD_b_4 := hb_4.lt
            have ltD_b_10 := hb_10.lt
            have ltD_b_13 := hb_13.lt
            have szD := Nat.le_refl w38.heap.size
            have S := S.trans s41
            have hb_4 := hb_4.sub s41
            have S1 := S1.trans s41
            have S2 := S2.trans s41
            have hb_10 := hb_10.sub s41
            have S3 := S3.trans s41
            have hb_13 := hb_13.sub s41
            have S6 := S6.trans s41
            have szD := Nat.le_trans szD s41.size
            refine RD.take 0 rfl (by kernel_rfl) (by kernel_rfl) (by kernel_rfl) (fun w' s' => .move rfl) rfl rfl ?_
            refine RD.take 1 rfl (by kernel_rfl) (by kernel_rfl) (by kernel_rfl) (fun w' s' => .bin rfl rfl rfl) rfl rfl ?_
            refine RD.take 2 rfl (by kernel_rfl) (by kernel_rfl) (by kernel_rfl) (fun w' s' => .move rfl) rfl rfl ?_
            refine RD.split 83 rfl (fun h42 => ?_) (fun h42 => ?_)
            ·
              have he1 : e1 = 0 := h42
              obtain ⟨_, hE1, hok1, _, hT1⟩ := (hP1.2 hnb).resolve_left (fun h => by omega)
              have hm1 := hok1.most
              refine RD.take 3 rfl (by kernel_rfl) (by kernel_rfl) (by kernel_rfl) (fun w' s' => .loadR ([.slice na1 B1.nodes.length nc1, .slice fa1 B1.free.length fc1]) sh34 rfl (hb_10.step s' (fun e => e.elim (fun e => e.elim) (fun e => Nat.not_le.2 ltD_b_10 e))).row rfl) rfl rfl ?_
              refine RD.take 4 rfl (by kernel_rfl) (by kernel_rfl) (by kernel_rfl) (fun w' s' => .move rfl) rfl rfl ?_
              refine RD.take 5 rfl (by kernel_rfl) (by kernel_rfl) (by kernel_rfl) (fun w' s' => .move rfl) rfl rfl ?_
              refine RD.all [6] (by kernel_rfl) rfl (RDs.cons rfl ?_ (RDs.nil))
              refine RL.call rfl ok32 (c_isYesH B1 na1 fa1 nc1 fc1 (by omega) r1 (putM L key v) (putR L key v) pp.symm qa qc _ hapP (List.length_map _) hu1 (by omega) hT1 w40 (hA1.sub S2) (hq.sub S6)) rfl rfl ?_
              rintro _ w43 ⟨rfl, s44⟩
              have S := S.trans s44
              have hb_4 := hb_4.sub s44
              have S1 := S1.trans s44
              have S2 := S2.trans s44
              have hb_10 := hb_10.sub s44
              have S3 := S3.trans s44
              have hb_13 := hb_13.sub s44
              have S6 := S6.trans s44
              have szD := Nat.le_trans szD s44.size
              refine RD.back s44.agr ?_
              refine RD.take 7 rfl (by kernel_rfl) (by kernel_rfl) (by kernel_rfl) (fun w' s' => .pick_t rfl rfl) rfl rfl ?_
              refine RD.take 8 rfl (by kernel_rfl) (by kernel_rfl) (by kernel_rfl) (fun w' s' => .move rfl) rfl rfl ?_
              refine RD.take 9 rfl (by kernel_rfl) (by kernel_rfl) (by kernel_rfl) (fun w' s' => .loadR ([.slice na A.nodes.length nc, .slice fa A.free.length fc]) sh34 rfl (hb_4.step s' (fun e => e.elim (fun e => e.elim) (fun e => Nat.not_le.2 ltD_b_4 e))).row rfl) rfl rfl ?_
              refine RD.take 10 rfl (by kernel_rfl) (by kernel_rfl) (by kernel_rfl) (fun w' s' => .loadR ([.slice na1 B1.nodes.length nc1, .slice fa1 B1.free.length fc1]) sh34 rfl (hb_10.step s' (fun e => e.elim (fun e => e.elim) (fun e => Nat.not_le.2 ltD_b_10 e))).row rfl) rfl rfl ?_
              refine RD.all [11] (by kernel_rfl) rfl (RDs.cons rfl ?_ (RDs.nil))
              refine RL.call rfl ok39 (c_kept9 A B1 na fa na1 fa1 nc fc nc1 fc1 w43 (hA.sub S) (hA1.sub S2) hE1 hok1) rfl rfl ?_
              rintro _ w45 ⟨rfl, s46⟩
              have S := S.trans s46
              have hb_4 := hb_4.sub s46
              have S1 := S1.trans s46
              have S2 := S2.trans s46
              have hb_10 := hb_10.sub s46
              have S3 := S3.trans s46
              have hb_13 := hb_13.sub s46
              have S6 := S6.trans s46
              have szD := Nat.le_trans szD s46.size
              refine RD.back s46.agr ?_
              refine RD.take 12 rfl (by kernel_rfl) (by kernel_rfl) (by kernel_rfl) (fun w' s' => .pick_t rfl rfl) rfl rfl ?_
              refine RD.take 13 rfl (by kernel_rfl) (by kernel_rfl) (by kernel_rfl) (fun w' s' => .not rfl) rfl rfl ?_
              refine RD.take 14 rfl (by kernel_rfl) (by kernel_rfl) (by kernel_rfl) (fun w' s' => .move rfl) rfl rfl ?_
              refine RD.takeOff 15 rfl (by kernel_rfl) (by kernel_rfl) (by kernel_rfl) rfl rfl ?_
              refine RD.takeOff 16 rfl (by kernel_rfl) (by kernel_rfl) (by kernel_rfl) rfl rfl ?_
              refine RD.takeOff 17 rfl (by kernel_rfl) (by kernel_rfl) (by kernel_rfl) rfl rfl ?_
              refine RD.takeOff 18 rfl (by kernel_rfl) (by kernel_rfl) (by kernel_rfl) rfl rfl ?_
              refine RD.takeOff 19 rfl (by kernel_rfl) (by kernel_rfl) (by kernel_rfl) rfl rfl ?_
              refine RD.takeOff 20 rfl (by kernel_rfl) (by kernel_rfl) (by kernel_rfl) rfl rfl ?_
              refine RD.takeOff 21 rfl (by kernel_rfl) (by kernel_rfl) (by kernel_rfl) rfl rfl ?_
              refine RD.takeOff 22 rfl (by kernel_rfl) (by kernel_rfl) (by kernel_rfl) rfl rfl ?_
              refine RD.takeOff 23 rfl (by kernel_rfl) (by kernel_rfl) (by kernel_rfl) rfl rfl ?_
              refine RD.takeOff 24 rfl (by kernel_rfl) (by kernel_rfl) (by kernel_rfl) rfl rfl ?_
              refine RD.takeOff 25 rfl (by kernel_rfl) (by kernel_rfl) (by kernel_rfl) rfl rfl ?_
              refine RD.takeOff 26 rfl (by kernel_rfl) (by kernel_rfl) (by kernel_rfl) rfl rfl ?_
              refine RD.takeOff 27 rfl (by kernel_rfl) (by kernel_rfl) (by kernel_rfl) rfl rfl ?_
              refine RD.take 28 rfl (by kernel_rfl) (by kernel_rfl) (by kernel_rfl) (fun w' s' => .pick_f rfl rfl) rfl rfl ?_
              refine RD.done (by kernel_rfl) (RC.back ?_)
              refine RC.cond_f rfl ?_
              exact RC.skip (fun a ka => ⟨(), ⟨hb_4, hb_13, S1, S3, S⟩, ka.keep (keep_of (by repeat (first | exact trivial | refine And.intro rfl ?_)))⟩)
            ·
              have he1 : ¬ e1 = 0 := h42
              have hfull1 := (hP1.2 hnb).resolve_right (fun h => he1 h.1)
              refine RD.takeOff 3 rfl (by kernel_rfl) (by kernel_rfl) (by kernel_rfl) rfl rfl ?_
              refine RD.takeOff 4 rfl (by kernel_rfl) (by kernel_rfl) (by kernel_rfl) rfl rfl ?_
              refine RD.takeOff 5 rfl (by kernel_rfl) (by kernel_rfl) (by kernel_rfl) rfl rfl ?_
              refine RD.takeOff 6 rfl (by kernel_rfl) (by kernel_rfl) (by kernel_rfl) rfl rfl ?_
              refine RD.take 7 rfl (by kernel_rfl) (by kernel_rfl) (by kernel_rfl) (fun w' s' => .pick_f rfl rfl) rfl rfl ?_
              refine RD.take 8 rfl (by kernel_rfl) (by kernel_rfl) (by kernel_rfl) (fun w' s' => .move rfl) rfl rfl ?_
              refine RD.takeOff 9 rfl (by kernel_rfl) (by kernel_rfl) (by kernel_rfl) rfl rfl ?_
              refine RD.takeOff 10 rfl (by kernel_rfl) (by kernel_rfl) (by kernel_rfl) rfl rfl ?_
              refine RD.takeOff 11 rfl (by kernel_rfl) (by kernel_rfl) (by kernel_rfl) rfl rfl ?_
              refine RD.take 12 rfl (by kernel_rfl) (by kernel_rfl) (by kernel_rfl) (fun w' s' => .pick_f rfl rfl) rfl rfl ?_
              refine RD.take 13 rfl (by kernel_rfl) (by kernel_rfl) (by kernel_rfl) (fun w' s' => .not rfl) rfl rfl ?_
              refine RD.take 14 rfl (by kernel_rfl) (by kernel_rfl) (by kernel_rfl) (fun w' s' => .move rfl) rfl rfl ?_
              refine RD.take 15 rfl (by kernel_rfl) (by kernel_rfl) (by kernel_rfl) (fun w' s' => .move rfl) rfl rfl ?_
              refine RD.take 16 rfl (by kernel_rfl) (by kernel_rfl) (by kernel_rfl) (fun w' s' => .as (v' := .bool true) (.bin rfl rfl rfl) (congrArg Value.bool (decide_eq_true (hfull1.1)))) rfl rfl ?_
              refine RD.take 17 rfl (by kernel_rfl) (by kernel_rfl) (by kernel_rfl) (fun w' s' => .move rfl) rfl rfl ?_
              refine RD.take 18 rfl (by kernel_rfl) (by kernel_rfl) (by kernel_rfl) (fun w' s' => .field0 fo34_1 rfl) rfl rfl ?_
              refine RD.take 19 rfl (by kernel_rfl) (by kernel_rfl) (by kernel_rfl) (fun w' s' => .load1 sh32 rfl ((hb_4.step s' (fun e => e.elim (fun e => e.elim) (fun e => Nat.not_le.2 ltD_b_4 e))).cell rfl)) rfl rfl ?_
              refine RD.take 20 rfl (by kernel_rfl) (by kernel_rfl) (by kernel_rfl) (fun w' s' => .len sl32 rfl) rfl rfl ?_
              refine RD.take 21 rfl (by kernel_rfl) (by kernel_rfl) (by kernel_rfl) (fun w' s' => .move rfl) rfl rfl ?_
              refine RD.all [22] (by kernel_rfl) rfl (RDs.cons rfl ?_ (RDs.nil))
              refine RL.call rfl ok34 (c_many9 (putR L key v) qa qc _ (List.length_map _) hapP (fun x _ => Nat.le_trans (Nat.le_of_eq (shL_perm pp)) (hfitP x.k)) hokP (by omega) w40 (hq.sub S6)) rfl rfl ?_
              rintro _ w47 ⟨rfl, s48⟩
              have S := S.trans s48
              have hb_4 := hb_4.sub s48
              have S1 := S1.trans s48
              have S2 := S2.trans s48
              have hb_10 := hb_10.sub s48
              have S3 := S3.trans s48
              have hb_13 := hb_13.sub s48
              have S6 := S6.trans s48
              have szD := Nat.le_trans szD s48.size
              refine RD.back s48.agr ?_
              refine RD.take 23 rfl (by kernel_rfl) (by kernel_rfl) (by kernel_rfl) (fun w' s' => .as (.bin rfl rfl rfl) (wi64 (y := ((2 * cnt 10 (putR L key v) : Nat) : Int)) (by omega) (by omega))) rfl rfl ?_
              refine RD.take 24 rfl (by kernel_rfl) (by kernel_rfl) (by kernel_rfl) (fun w' s' => .as (.bin rfl rfl rfl) (wi64 (y := ((2 * cnt 10 (putR L key v) + 1 : Nat) : Int)) (by omega) (by omega))) rfl rfl ?_
              refine RD.take 25 rfl (by kernel_rfl) (by kernel_rfl) (by kernel_rfl) (fun w' s' => .as (v' := .bool true) (.bin rfl rfl rfl) (congrArg Value.bool (decide_eq_true (by omega)))) rfl rfl ?_
              refine RD.take 26 rfl (by kernel_rfl) (by kernel_rfl) (by kernel_rfl) (fun w' s' => .pick_t rfl rfl) rfl rfl ?_
              refine RD.take 27 rfl (by kernel_rfl) (by kernel_rfl) (by kernel_rfl) (fun w' s' => .not rfl) rfl rfl ?_
              refine RD.take 28 rfl (by kernel_rfl) (by kernel_rfl) (by kernel_rfl) (fun w' s' => .pick_t rfl rfl) rfl rfl ?_
              refine RD.done (by kernel_rfl) (RC.back ?_)
              refine RC.cond_f rfl ?_
              exact RC.skip (fun a ka => ⟨(), ⟨hb_4, hb_13, S1, S3, S⟩, ka.keep (keep_of (by repeat (first | exact trivial | refine And.intro rfl ?_)))⟩)
    obtain ⟨hb_4, hb_13, S1, S3, S⟩ := hJ
    refine RC.seq ?_
    refine RC.seq ?_
    refine RC.region rfl ?_
    refine RL.ev (.move rfl) rfl rfl ?_
    refine RL.ev (.not rfl) rfl rfl ?_
    refine RL.nil (RC.back ?_)
    refine RC.cond rfl (fun h49 => ?_) (fun h49 => ?_)
    ·
      have hno : hasK L key = false := (by have := h49; simpa using this)
      have hz2 := hP2.1 hno
      refine RC.seq ?_
      refine RC.region rfl ?_
      refine RL.call rfl ok31 (c_alive9 w19) rfl rfl ?_
      rintro _ w50 ⟨rfl, s51⟩
      have S := S.trans s51
      have S1 := S1.trans s51
      have S3 := S3.trans s51
      have hb_4 := hb_4.sub s51
      have hb_13 := hb_13.sub s51
      refine RL.ev (.move rfl) rfl rfl ?_
      refine RL.ev (.move rfl) rfl rfl ?_
      refine RL.ev (.as (v' := .bool true) (.bin rfl rfl rfl) (congrArg Value.bool (decide_eq_true (hz2.1)))) rfl rfl ?_
      refine RL.ev (.pick_t rfl rfl) rfl rfl ?_
      refine RL.ev (.move rfl) rfl rfl ?_
      refine RL.ev (.move rfl) rfl rfl ?_
      refine RL.ev (.as (v' := .bool true) (.bin rfl rfl rfl) (congrArg Value.bool (decide_eq_true (hz2.2)))) rfl rfl ?_
      refine RL.ev (.pick_t rfl rfl) rfl rfl ?_
      refine RL.ev (.assign rfl) rfl rfl ?_
      refine RL.nil (RC.back ?_)
      refine RC.done (rs := [.tmp 8]) (vs := [_]) rfl rfl ⟨rfl, trivial⟩ ?_
      -- end 2
      exact ⟨rfl, S⟩
    ·
      have hhas : hasK L key = true := (by have := h49; simpa using this)
      have hz2 := hP2.2 hhas
      refine RC.skip (RC.back ?_)
      refine RC.seq ?_
      refine RC.region rfl ?_
      refine RL.ev (.move rfl) rfl rfl ?_
      refine RL.ev (.move rfl) rfl rfl ?_
      refine RL.call rfl ok40 (c_refDel L ra rc _ rfl key w19 (hl.sub S1) (by omega)) rfl rfl ?_
      rintro _ w52 ⟨da, dc, rfl, o7, s53⟩
      have S := S.trans s53
      have S1 := S1.trans s53
      have S3 := S3.trans s53
      have hb_4 := hb_4.sub s53
      have hb_13 := hb_13.sub s53
      obtain ⟨W7, S7, hd⟩ : ∃ W7, Sub W7 w52 ∧ Sl W7 da 2 ((delL L key).map It.cells) := ⟨_, Sub.refl _, o7.sl.1⟩
      refine RL.ev (.assign rfl) rfl rfl ?_
      refine RL.nil (RC.back ?_)
      refine RC.seq ?_
      refine RC.drawD (fun k => False) [] w52.heap.size 31 rfl rfl mxo (fun w54 s55 => ?_)
      have hNN : ∀ k, ((False) ∨ w52.heap.size ≤ k) → w.heap.size ≤ k := fun k e => e.elim (fun e => e.elim) (fun e => Nat.le_trans S.size e)
      have ent_S := S.size
      have ent_S1 := S1.size
      have ent_S3 := S3.size
      have ent_S7 := S7.size
      have hN0 : ∀ k, w52.heap.size ≤ k → w.heap.size ≤ k := fun k e => Nat.le_trans S.size e
      have ltD_b_4 := hb_4.lt
      have ltD_b_13 := hb_13.lt
      have szD := Nat.le_refl w52.heap.size
      have S := S.trans s55
      have S1 := S1.trans s55
      have S3 := S3.trans s55
      have hb_4 := hb_4.sub s55
      have hb_13 := hb_13.sub s55
      have S7 := S7.trans s55
      have szD := Nat.le_trans szD s55.size
      refine RD.all [0] (by kernel_rfl) rfl (RDs.cons rfl ?_ (RDs.nil))
      refine RL.call rfl ok31 (c_alive9 w54) rfl rfl ?_
      rintro _ w56 ⟨rfl, s57⟩
      have S := S.trans s57
      have S1 := S1.trans s57
      have S3 := S3.trans s57
      have hb_4 := hb_4.sub s57
      have hb_13 := hb_13.sub s57
      have S7 := S7.trans s57
      have szD := Nat.le_trans szD s57.size
      refine RD.back s57.agr ?_
      refine RD.take 1 rfl (by kernel_rfl) (by kernel_rfl) (by kernel_rfl) (fun w' s' => .move rfl) rfl rfl ?_
      refine RD.take 2 rfl (by kernel_rfl) (by kernel_rfl) (by kernel_rfl) (fun w' s' => .move rfl) rfl rfl ?_
      refine RD.take 3 rfl (by kernel_rfl) (by kernel_rfl) (by kernel_rfl) (fun w' s' => .bin rfl rfl rfl) rfl rfl ?_
      refine RD.take 4 rfl (by kernel_rfl) (by kernel_rfl) (by kernel_rfl) (fun w' s' => .move rfl) rfl rfl ?_
      refine RD.split 128 rfl (fun h58 => ?_) (fun h58 => ?_)
      ·
        have he2 : e2 = 0 := h58
        obtain ⟨_, hE2, hok2, _, hT2⟩ := hz2.resolve_left (fun h => by omega)
        have hm2 := hok2.most
        refine RD.take 5 rfl (by kernel_rfl) (by kernel_rfl) (by kernel_rfl) (fun w' s' => .loadR ([.slice na2 B2.nodes.length nc2, .slice fa2 B2.free.length fc2]) sh34 rfl (hb_13.step s' (fun e => e.elim (fun e => e.elim) (fun e => Nat.not_le.2 ltD_b_13 e))).row rfl) rfl rfl ?_
        refine RD.take 6 rfl (by kernel_rfl) (by kernel_rfl) (by kernel_rfl) (fun w' s' => .move rfl) rfl rfl ?_
        refine RD.take 7 rfl (by kernel_rfl) (by kernel_rfl) (by kernel_rfl) (fun w' s' => .move rfl) rfl rfl ?_
        refine RD.all [8] (by kernel_rfl) rfl (RDs.cons rfl ?_ (RDs.nil))
        refine RL.call rfl ok32 (c_isYesH B2 na2 fa2 nc2 fc2 (by omega) r2 (delL L key) (delL L key) (List.Perm.refl _) da dc _ hap.del (List.length_map _) hu2 (by omega) hT2 w56 (hA2.sub S3) (hd.sub S7)) rfl rfl ?_
        rintro _ w59 ⟨rfl, s60⟩
        have S := S.trans s60
        have S1 := S1.trans s60
        have S3 := S3.trans s60
        have hb_4 := hb_4.sub s60
        have hb_13 := hb_13.sub s60
        have S7 := S7.trans s60
        have szD := Nat.le_trans szD s60.size
        refine RD.back s60.agr ?_
        refine RD.take 9 rfl (by kernel_rfl) (by kernel_rfl) (by kernel_rfl) (fun w' s' => .pick_t rfl rfl) rfl rfl ?_
        refine RD.take 10 rfl (by kernel_rfl) (by kernel_rfl) (by kernel_rfl) (fun w' s' => .move rfl) rfl rfl ?_
        refine RD.take 11 rfl (by kernel_rfl) (by kernel_rfl) (by kernel_rfl) (fun w' s' => .loadR ([.slice na A.nodes.length nc, .slice fa A.free.length fc]) sh34 rfl (hb_4.step s' (fun e => e.elim (fun e => e.elim) (fun e => Nat.not_le.2 ltD_b_4 e))).row rfl) rfl rfl ?_
        refine RD.take 12 rfl (by kernel_rfl) (by kernel_rfl) (by kernel_rfl) (fun w' s' => .loadR ([.slice na2 B2.nodes.length nc2, .slice fa2 B2.free.length fc2]) sh34 rfl (hb_13.step s' (fun e => e.elim (fun e => e.elim) (fun e => Nat.not_le.2 ltD_b_13 e))).row rfl) rfl rfl ?_
        refine RD.all [13] (by kernel_rfl) rfl (RDs.cons rfl ?_ (RDs.nil))
        refine RL.call rfl ok39 (c_kept9 A B2 na fa na2 fa2 nc fc nc2 fc2 w59 (hA.sub S) (hA2.sub S3) hE2 hok2) rfl rfl ?_
        rintro _ w61 ⟨rfl, s62⟩
        have S := S.trans s62
        have S1 := S1.trans s62
        have S3 := S3.trans s62
        have hb_4 := hb_4.sub s62
        have hb_13 := hb_13.sub s62
        have S7 := S7.trans s62
        have szD := Nat.le_trans szD s62.size
        refine RD.back s62.agr ?_
        refine RD.take 14 rfl (by kernel_rfl) (by kernel_rfl) (by kernel_rfl) (fun w' s' => .pick_t rfl rfl) rfl rfl ?_
        refine RD.take 15 rfl (by kernel_rfl) (by kernel_rfl) (by kernel_rfl) (fun w' s' => .move rfl) rfl rfl ?_
        refine RD.takeOff 16 rfl (by kernel_rfl) (by kernel_rfl) (by kernel_rfl) rfl rfl ?_
        refine RD.takeOff 17 rfl (by kernel_rfl) (by kernel_rfl) (by kernel_rfl) rfl rfl ?_
        refine RD.takeOff 18 rfl (by kernel_rfl) (by kernel_rfl) (by kernel_rfl) rfl rfl ?_
        refine RD.takeOff 19 rfl (by kernel_rfl) (by kernel_rfl) (by kernel_rfl) rfl rfl ?_
        refine RD.takeOff 20 rfl (by kernel_rfl) (by kernel_rfl) (by kernel_rfl) rfl rfl ?_
        refine RD.takeOff 21 rfl (by kernel_rfl) (by kernel_rfl) (by kernel_rfl) rfl rfl ?_
        refine RD.takeOff 22 rfl (by kernel_rfl) (by kernel_rfl) (by kernel_rfl) rfl rfl ?_
        refine RD.takeOff 23 rfl (by kernel_rfl) (by kernel_rfl) (by kernel_rfl) rfl rfl ?_
        refine RD.takeOff 24 rfl (by kernel_rfl) (by kernel_rfl) (by kernel_rfl) rfl rfl ?_
        refine RD.takeOff 25 rfl (by kernel_rfl) (by kernel_rfl) (by kernel_rfl) rfl rfl ?_
        refine RD.takeOff 26 rfl (by kernel_rfl) (by kernel_rfl) (by kernel_rfl) rfl rfl ?_
        refine RD.takeOff 27 rfl (by kernel_rfl) (by kernel_rfl) (by kernel_rfl) rfl rfl ?_
        refine RD.take 28 rfl (by kernel_rfl) (by kernel_rfl) (by kernel_rfl) (fun w' s' => .pick_t rfl rfl) rfl rfl ?_
        refine RD.take 29 rfl (by kernel_rfl) (by kernel_rfl) (by kernel_rfl) (fun w' s' => .pick_t rfl rfl) rfl rfl ?_
        refine RD.take 30 rfl (by kernel_rfl) (by kernel_rfl) (by kernel_rfl) (fun w' s' => .assign rfl) rfl rfl ?_
        refine RD.done (by kernel_rfl) (RC.back ?_)
        refine RC.done (rs := [.tmp 8]) (vs := [_]) rfl rfl ⟨rfl, trivial⟩ ?_
        -- end 3
        exact ⟨rfl, S⟩
      ·
        have he2 : ¬ e2 = 0 := h58
        have hfull2 := hz2.resolve_right (fun h => he2 h.1)
        refine RD.takeOff 5 rfl (by kernel_rfl) (by kernel_rfl) (by kernel_rfl) rfl rfl ?_
        refine RD.takeOff 6 rfl (by kernel_rfl) (by kernel_rfl) (by kernel_rfl) rfl rfl ?_
        refine RD.takeOff 7 rfl (by kernel_rfl) (by kernel_rfl) (by kernel_rfl) rfl rfl ?_
        refine RD.takeOff 8 rfl (by kernel_rfl) (by kernel_rfl) (by kernel_rfl) rfl rfl ?_
        refine RD.take 9 rfl (by kernel_rfl) (by kernel_rfl) (by kernel_rfl) (fun w' s' => .pick_f rfl rfl) rfl rfl ?_
        refine RD.take 10 rfl (by kernel_rfl) (by kernel_rfl) (by kernel_rfl) (fun w' s' => .move rfl) rfl rfl ?_
        refine RD.takeOff 11 rfl (by kernel_rfl) (by kernel_rfl) (by kernel_rfl) rfl rfl ?_
        refine RD.takeOff 12 rfl (by kernel_rfl) (by kernel_rfl) (by kernel_rfl) rfl rfl ?_
        refine RD.takeOff 13 rfl (by kernel_rfl) (by kernel_rfl) (by kernel_rfl) rfl rfl ?_
        refine RD.take 14 rfl (by kernel_rfl) (by kernel_rfl) (by kernel_rfl) (fun w' s' => .pick_f rfl rfl) rfl rfl ?_
        refine RD.take 15 rfl (by kernel_rfl) (by kernel_rfl) (by kernel_rfl) (fun w' s' => .move rfl) rfl rfl ?_
        refine RD.take 16 rfl (by kernel_rfl) (by kernel_rfl) (by kernel_rfl) (fun w' s' => .move rfl) rfl rfl ?_
        refine RD.take 17 rfl (by kernel_rfl) (by kernel_rfl) (by kernel_rfl) (fun w' s' => .as (v' := .bool true) (.bin rfl rfl rfl) (congrArg Value.bool (decide_eq_true (hfull2.1)))) rfl rfl ?_
        refine RD.take 18 rfl (by kernel_rfl) (by kernel_rfl) (by kernel_rfl) (fun w' s' => .move rfl) rfl rfl ?_
        refine RD.take 19 rfl (by kernel_rfl) (by kernel_rfl) (by kernel_rfl) (fun w' s' => .field0 fo34_1 rfl) rfl rfl ?_
        refine RD.take 20 rfl (by kernel_rfl) (by kernel_rfl) (by kernel_rfl) (fun w' s' => .load1 sh32 rfl ((hb_4.step s' (fun e => e.elim (fun e => e.elim) (fun e => Nat.not_le.2 ltD_b_4 e))).cell rfl)) rfl rfl ?_
        refine RD.take 21 rfl (by kernel_rfl) (by kernel_rfl) (by kernel_rfl) (fun w' s' => .len sl32 rfl) rfl rfl ?_
        refine RD.take 22 rfl (by kernel_rfl) (by kernel_rfl) (by kernel_rfl) (fun w' s' => .move rfl) rfl rfl ?_
        refine RD.all [23] (by kernel_rfl) rfl (RDs.cons rfl ?_ (RDs.nil))
        refine RL.call rfl ok34 (c_many9 (delL L key) da dc _ (List.length_map _) hap.del (fun x _ => fit_del hfitL key x.k) (fun z hz => hLok z (delL_mem.1 hz).1) (by omega) w56 (hd.sub S7)) rfl rfl ?_
        rintro _ w63 ⟨rfl, s64⟩
        have S := S.trans s64
        have S1 := S1.trans s64
        have S3 := S3.trans s64
        have hb_4 := hb_4.sub s64
        have hb_13 := hb_13.sub s64
        have S7 := S7.trans s64
        have szD := Nat.le_trans szD s64.size
        refine RD.back s64.agr ?_
        refine RD.take 24 rfl (by kernel_rfl) (by kernel_rfl) (by kernel_rfl) (fun w' s' => .as (.bin rfl rfl rfl) (wi64 (y := ((2 * cnt 10 (delL L key) : Nat) : Int)) (by omega) (by omega))) rfl rfl ?_
        refine RD.take 25 rfl (by kernel_rfl) (by kernel_rfl) (by kernel_rfl) (fun w' s' => .as (.bin rfl rfl rfl) (wi64 (y := ((2 * cnt 10 (delL L key) + 1 : Nat) : Int)) (by omega) (by omega))) rfl rfl ?_
        refine RD.take 26 rfl (by kernel_rfl) (by kernel_rfl) (by kernel_rfl) (fun w' s' => .as (v' := .bool true) (.bin rfl rfl rfl) (congrArg Value.bool (decide_eq_true (by omega)))) rfl rfl ?_
        refine RD.take 27 rfl (by kernel_rfl) (by kernel_rfl) (by kernel_rfl) (fun w' s' => .pick_t rfl rfl) rfl rfl ?_
        refine RD.take 28 rfl (by kernel_rfl) (by kernel_rfl) (by kernel_rfl) (fun w' s' => .pick_f rfl rfl) rfl rfl ?_
        refine RD.take 29 rfl (by kernel_rfl) (by kernel_rfl) (by kernel_rfl) (fun w' s' => .pick_t rfl rfl) rfl rfl ?_
        refine RD.take 30 rfl (by kernel_rfl) (by kernel_rfl) (by kernel_rfl) (fun w' s' => .assign rfl) rfl rfl ?_
        refine RD.done (by kernel_rfl) (RC.back ?_)
        refine RC.done (rs := [.tmp 8]) (vs := [_]) rfl rfl ⟨rfl, trivial⟩ ?_
        -- end 4
        exact ⟨rfl, S⟩
end Go.Proofs.Ytbfjobmebkhblaa
