/-
  What the law WalkPuts leans on, part 3.
-/
import Derived.Test.YtbfjobmebkhblaaPWalkPuts2
set_option linter.unusedVariables false
set_option linter.unusedSimpArgs false
namespace Go.Proofs.Ytbfjobmebkhblaa
open Go Go.XL
theorem fit_10 {l : List It} (h : ∀ x ∈ l, shL x.k l ≤ 9) : FitH 10 l := fit_of (Nat.le_refl _) (fam_0 l) h
set_option maxHeartbeats 1000000 in
theorem c_build9 (size : Nat) (l : List It) (a : Option Addr) (c m : Nat) (hm : m = l.length) (hap : Ap l) (hfit : ∀ x ∈ l, shL x.k l ≤ 9) (hok : ∀ z ∈ l, z.ok) (h : cnt 10 l ≤ size) (h1 : 1 ≤ size) (h2 : size ≤ 1000000) (hl6 : l.length ≤ 1000000) (w : World) (hl : Sl w a 2 (l.map It.cells)) :
    FC Try.prog 18 [.int .i64 (size : Int), .slice a m c] w (fun v w' => ∃ B r na fa nc fc, v = .tuple #[arV na fa nc fc B, .int .u64 r] ∧ BldH size l B r ∧ B.nodes.length ≤ nc ∧ B.free.length ≤ fc ∧ (∀ N : Nat → Prop, (∀ k, N k → k < w.heap.size) → Imm N (fun u => ArR u na fa B) w') ∧ Sub w w') := by
  subst hm
  refine FC.intro Try.func18 rfl Try.ntmps18 rfl ?_
  have S := Sub.refl w
  refine RC.seq ?_
  refine RC.region rfl ?_
  refine RL.alloc ze34 rfl rfl (fun b_4 w_4 e_4 z_4 hb_4 s_4 => ?_)
  have ge_4 := S.le e_4
  have S := S.trans s_4
  refine RL.ev (.assign rfl) rfl rfl ?_
  refine RL.nil (RC.back ?_)
  refine RC.seq ?_
  refine RC.region rfl ?_
  refine RL.ev (.move rfl) rfl rfl ?_
  refine RL.makeSlice sl31 ze97 rfl rfl rfl rfl (by omega) rfl rfl (fun b_10 w_10 e_10 z_10 hb_10 s_10 => ?_)
  have ge_10 := S.le e_10
  have n_4__10 := hb_4.ne e_10
  have S := S.trans s_10
  have hb_4 := hb_4.sub s_10
  have hb_10 : Has w_10 b_10 (nodeL (List.replicate size (bareN 0))) 97 := by have := hb_10; rw [Int.toNat_natCast] at this; rw [nodeL, List.map_replicate]; exact this
  refine RL.ev (.buildS ze34 pl34 rfl rfl) rfl rfl ?_
  refine RL.alloc ze34 rfl rfl (fun b_6 w_6 e_6 z_6 hb_6 s_6 => ?_)
  have ge_6 := S.le e_6
  have n_4__6 := hb_4.ne e_6
  have n_10__6 := hb_10.ne e_6
  have S := S.trans s_6
  have hb_4 := hb_4.sub s_6
  have hb_10 := hb_10.sub s_6
  refine RL.store sh34 rfl rfl rfl hb_6 (by exact Nat.le_of_ble_eq_true rfl) (by rfl) rfl (fun w1 z1 hb_6 a1 => ?_)
  have S := S.upd a1 ge_6
  have hb_4 := hb_4.upd a1 n_4__6
  have hb_10 := hb_10.upd a1 n_10__6
  have hb_6 : Has w1 b_6 ([.slice (some ⟨b_10, 0, none⟩) size size, .slice none 0 0]) _ := hb_6.now (by kernel_rfl)
  refine RL.nil (RC.back ?_)
  refine RC.seq ?_
  refine RC.region rfl ?_
  refine RL.ev (.loadR ([.slice (some ⟨b_10, 0, none⟩) size size, .slice none 0 0]) sh34 rfl hb_6.row rfl) rfl rfl ?_
  refine RL.ev (.as (v' := .agg (tyC b_10 size size (0 : Nat) 0).toArray) (.buildS ze80 pl80 rfl rfl) (by rfl)) rfl rfl ?_
  refine RL.ev (.move rfl) rfl rfl ?_
  refine RL.call rfl ok45 (c_layH b_10 size size h2 10 0 (Nat.le_refl _) rfl (List.replicate size (bareN 0)) 0 0 l _ a c l.length w1 hap (fit_10 hfit) rfl hl6 (by rw [List.length_replicate]; omega) List.length_replicate ((Ft.of_sub (fun u s => hl.sub s)).sub S) (fun k hk e => by omega) hb_10) rfl rfl ?_
  rintro vL w2 ⟨ns, r, hv, hLy, ag1, hN1⟩
  have S := S.upd ag1 ge_10
  have hb_4 := hb_4.upd ag1 n_4__10
  have hb_6 := hb_6.upd ag1 n_10__6.symm
  rw [Nat.zero_add] at hv
  subst hv
  have hb_10 := hN1
  have hB := bld_ok h h2 hLy
  refine RL.alloc ze80 rfl rfl (fun b_7 w_7 e_7 z_7 hb_7 s_7 => ?_)
  have ge_7 := S.le e_7
  have n_4__7 := hb_4.ne e_7
  have n_10__7 := hb_10.ne e_7
  have n_6__7 := hb_6.ne e_7
  have S := S.trans s_7
  have hb_4 := hb_4.sub s_7
  have hb_10 := hb_10.sub s_7
  have hb_6 := hb_6.sub s_7
  refine RL.store sh80 rfl rfl rfl hb_7 (by exact Nat.le_of_ble_eq_true rfl) (by rfl) rfl (fun w4 z4 hb_7 a4 => ?_)
  have S := S.upd a4 ge_7
  have hb_4 := hb_4.upd a4 n_4__7
  have hb_10 := hb_10.upd a4 n_10__7
  have hb_6 := hb_6.upd a4 n_6__7
  have hb_7 : Has w4 b_7 (tyC b_10 size size (cnt 10 l : Nat) r) _ := hb_7.now (by kernel_rfl)
  refine RL.nil (RC.back ?_)
  refine RC.seq ?_
  refine RC.seq ?_
  refine RC.region rfl ?_
  refine RL.ev (.move rfl) rfl rfl ?_
  refine RL.ev (.as (.bin rfl rfl rfl) (wi64 (y := (size : Int) - 1 - ((0 : Nat) : Int)) (by omega) (by omega))) rfl rfl ?_
  refine RL.ev (.assign rfl) rfl rfl ?_
  obtain ⟨E, hE⟩ : ∃ E, E = w4.heap.size := ⟨_, rfl⟩
  have lt4 := hb_4.lt
  have lt7 := hb_7.lt
  have lt10 := hb_10.lt
  have szS := S.size
  rw [← hE] at lt4 lt7 lt10 szS
  refine RL.nil (RC.back ?_)
  refine RC.block ?_
  refine RC.loop (α := Nat × Option Addr × Nat × Nat) (fun x => [(1, .slice a l.length c), (4, .pointer (some ⟨b_4, 0, none⟩)), (5, .int .u64 0), (7, .pointer (some ⟨b_7, 0, none⟩)), (8, .int .i64 ((size : Int) - 1 - (x.1 : Int)))]) (fun x w5 => x.1 ≤ size - cnt 10 l ∧ Ows E w5 3 1 (.slice x.2.1 x.2.2.1 x.2.2.2) ((freeB size x.1).map fun x => [i6 x]) ∧ Has w5 b_4 [.slice none 0 0, .slice none 0 0] 34 ∧ Has w5 b_7 [.slice (some ⟨b_10, 0, none⟩) size size, .slice x.2.1 x.2.2.1 x.2.2.2, .int .i64 (cnt 10 l : Nat), .int .u64 r] 80 ∧ Has w5 b_10 (nodeL ns) 97 ∧ E ≤ w5.heap.size ∧ Sub w w5) (fun x => size - cnt 10 l - x.1) (0, none, 0, 0) (keep_of (by repeat (first | exact trivial | refine And.intro rfl ?_))) (⟨Nat.zero_le _, Ows.nil _ _ _ _, hb_4, hb_7, hb_10, by omega, S⟩) (fun x w5 hJ => ?_)
  obtain ⟨i, a_u, m_u, c_u⟩ := x; obtain ⟨hi, o, hb_4, hb_7, hb_10, szB, S⟩ := hJ; simp only [] at hi o hb_7; obtain rfl := o.sl.2; have hfl := freeB_len size i
  refine RC.seq ?_
  refine RC.seq ?_
  refine RC.region rfl ?_
  refine RL.ev (.move rfl) rfl rfl ?_
  refine RL.ev (.field0 fo80_1 rfl) rfl rfl ?_
  refine RL.ev (.load1 sh3 rfl (hb_7.cell rfl)) rfl rfl ?_
  refine RL.ev (.bin rfl rfl rfl) rfl rfl ?_
  refine RL.nil (RC.back ?_)
  refine RC.cond_dec rfl (fun h6 => ?_) (fun h6 => ?_)
  ·
    have d4 : ∀ k, ob (.slice a_u ((freeB size i).map fun x => [i6 x]).length c_u) = some k → k ≠ b_4 := fun k hk e => absurd (o.ge k hk).1 (by omega)
    have d7 : ∀ k, ob (.slice a_u ((freeB size i).map fun x => [i6 x]).length c_u) = some k → k ≠ b_7 := fun k hk e => absurd (o.ge k hk).1 (by omega)
    have d10 : ∀ k, ob (.slice a_u ((freeB size i).map fun x => [i6 x]).length c_u) = some k → k ≠ b_10 := fun k hk e => absurd (o.ge k hk).1 (by omega)
    refine RC.skip (RC.back ?_)
    refine RC.seq ?_
    refine RC.block ?_
    refine RC.region rfl ?_
    refine RL.ev (.field0 fo80_0 rfl) rfl rfl ?_
    refine RL.ev (.field0 fo34_1 rfl) rfl rfl ?_
    refine RL.ev (.load1 sh32 rfl (hb_7.cell rfl)) rfl rfl ?_
    refine RL.ev (.move rfl) rfl rfl ?_
    refine RL.buildSlice1 sl32 _ ze3 rfl rfl rfl rfl rfl rfl rfl (fun b_28 w_28 e_28 z_28 hb_28 s_28 => ?_)
    have ge_28 := S.le e_28
    have n_4__28 := hb_4.ne e_28
    have n_7__28 := hb_7.ne e_28
    have n_10__28 := hb_10.ne e_28
    have d_o_b_28 := o.neNew e_28
    have S := S.trans s_28
    have hb_4 := hb_4.sub s_28
    have hb_7 := hb_7.sub s_28
    have hb_10 := hb_10.sub s_28
    have szB := Nat.le_trans szB s_28.size
    have o := o.sub s_28
    have sz_29 := S.size
    have ltb_4_29 := hb_4.lt
    have ltb_7_29 := hb_7.lt
    have ltb_10_29 := hb_10.lt
    have ltb_28_29 := hb_28.lt
    refine RL.append2 (base := E) (rows := (freeB size i).map fun x => [i6 x]) (news := [_]) sl32 ze3 rfl rfl rfl rfl (.inl o) (Has.slOne hb_28) rfl (by intro r hr; rw [List.mem_singleton] at hr; subst hr; rfl) rfl (by (try simp only [List.length_map, List.length_nil, List.length_append, List.length_cons]); omega) (by (try simp only [List.length_map, List.length_nil, List.length_append, List.length_cons]); omega) (by omega) rfl rfl (fun v_29 w_29 hc_29 ho_29 ag_29 ob_29 => ?_)
    have o29 := ho_29 (.inl (by simp))
    rw [show _ ++ [_] = ((freeB size i ++ [(size : Int) - 1 - (i : Int)]).map fun x => [i6 x]) from by rw [List.map_append]; rfl] at o29
    have d_o29_b_4 := obNe ob_29 d4 hb_4.lt
    have d_o29_b_7 := obNe ob_29 d7 hb_7.lt
    have d_o29_b_10 := obNe ob_29 d10 hb_10.lt
    have S := S.agrN ag_29 (fun k e => Nat.le_trans (by omega) e.2)
    have hb_4 := hb_4.step ag_29 (fun e => d4 _ e.1 rfl)
    have hb_7 := hb_7.step ag_29 (fun e => d7 _ e.1 rfl)
    have hb_10 := hb_10.step ag_29 (fun e => d10 _ e.1 rfl)
    have szB := Nat.le_trans szB ag_29.size
    obtain ⟨a_29, c_29, rfl, k_29⟩ := o29.form
    refine RL.ev (.field0 fo80_0 rfl) rfl rfl ?_
    refine RL.ev (.field0 fo34_1 rfl) rfl rfl ?_
    refine RL.store sh32 rfl rfl rfl hb_7 (by exact Nat.le_of_ble_eq_true rfl) (by rfl) rfl (fun w7 z7 hb_7 a7 => ?_)
    have S := S.upd a7 ge_7
    have hb_4 := hb_4.upd a7 n_4__7
    have hb_10 := hb_10.upd a7 n_10__7
    have szB := Nat.le_trans szB a7.size
    have o29 := o29.updD a7 d_o29_b_7
    have hb_7 : Has w7 b_7 ([.slice (some ⟨b_10, 0, none⟩) size size, .slice a_29 ((freeB size i ++ [(size : Int) - 1 - (i : Int)]).map fun x => [i6 x]).length c_29, .int .i64 (cnt 10 l : Nat), .int .u64 r]) _ := hb_7
    refine RL.nil (RC.back ?_)
    refine RC.region rfl ?_
    refine RL.ev (.move rfl) rfl rfl ?_
    refine RL.ev (.as (.bin rfl rfl rfl) (wi64 (y := (size : Int) - 1 - ((i + 1 : Nat) : Int)) (by omega) (by omega))) rfl rfl ?_
    refine RL.ev (.assign rfl) rfl rfl ?_
    exact RL.nil (fun a ka => ⟨(i + 1, a_29, _, c_29), ⟨by omega, by rw [freeB_succ]; exact o29, hb_4, hb_7, hb_10, szB, S⟩, by omega, ka.keep (keep_of (by repeat (first | exact trivial | refine And.intro rfl ?_)))⟩)
  ·
    obtain rfl : i = size - cnt 10 l := (by omega)
    have d4 : ∀ k, ob (.slice a_u ((freeB size (size - cnt 10 l)).map fun x => [i6 x]).length c_u) = some k → k ≠ b_4 := fun k hk e => absurd (o.ge k hk).1 (by omega)
    have d7 : ∀ k, ob (.slice a_u ((freeB size (size - cnt 10 l)).map fun x => [i6 x]).length c_u) = some k → k ≠ b_7 := fun k hk e => absurd (o.ge k hk).1 (by omega)
    have d10 : ∀ k, ob (.slice a_u ((freeB size (size - cnt 10 l)).map fun x => [i6 x]).length c_u) = some k → k ≠ b_10 := fun k hk e => absurd (o.ge k hk).1 (by omega)
    refine RC.exit rfl (RC.back ?_)
    refine RC.seq ?_
    refine RC.drawD (fun k => k = b_4) [4] w5.heap.size 6 rfl rfl mxo (fun w8 s9 => ?_)
    have hNN : ∀ k, ((k = b_4) ∨ w5.heap.size ≤ k) → w.heap.size ≤ k := fun k e => e.elim (fun e => e ▸ ge_4) (fun e => Nat.le_trans S.size e)
    have ent_S := S.size
    have hN0 : ∀ k, w5.heap.size ≤ k → w.heap.size ≤ k := fun k e => Nat.le_trans S.size e
    have ltD_b_4 := hb_4.lt
    have ltD_b_7 := hb_7.lt
    have ltD_b_10 := hb_10.lt
    have ltD_o := fun k hk => (o.ge k hk).2
    have szD := Nat.le_refl w5.heap.size
    have S := S.trans s9
    have hb_4 := hb_4.sub s9
    have hb_7 := hb_7.sub s9
    have hb_10 := hb_10.sub s9
    have szB := Nat.le_trans szB s9.size
    have o := o.sub s9
    have szD := Nat.le_trans szD s9.size
    refine RD.take 0 rfl (by kernel_rfl) (by kernel_rfl) (by kernel_rfl) (fun w' s' => .field0 fo80_0 rfl) rfl rfl ?_
    refine RD.take 1 rfl (by kernel_rfl) (by kernel_rfl) (by kernel_rfl) (fun w' s' => .loadR ([.slice (some ⟨b_10, 0, none⟩) size size, .slice a_u ((freeB size (size - cnt 10 l)).map fun x => [i6 x]).length c_u]) sh34 rfl (row_pref (xs := [.slice (some ⟨b_10, 0, none⟩) size size, .slice a_u ((freeB size (size - cnt 10 l)).map fun x => [i6 x]).length c_u]) (ys := [.int .i64 (cnt 10 l : Nat), .int .u64 r]) (hb_7.step s' (fun e => e.elim (fun e => n_4__7.symm e) (fun e => Nat.not_le.2 ltD_b_7 e)))) rfl) rfl rfl ?_
    refine RD.take 2 rfl (by kernel_rfl) (by kernel_rfl) (by kernel_rfl) (fun w' s' => .field0 fo80_2 rfl) rfl rfl ?_
    refine RD.take 3 rfl (by kernel_rfl) (by kernel_rfl) (by kernel_rfl) (fun w' s' => .load1 sh36 rfl ((hb_7.step s' (fun e => e.elim (fun e => n_4__7.symm e) (fun e => Nat.not_le.2 ltD_b_7 e))).cell rfl)) rfl rfl ?_
    refine RD.all [4] (by kernel_rfl) rfl (RDs.cons rfl ?_ (RDs.nil))
    refine RL.store sh34 rfl rfl rfl hb_4 (by exact Nat.le_of_ble_eq_true rfl) (by rfl) rfl (fun w10 z10 hb_4 a10 => ?_)
    have S := S.upd a10 ge_4
    have hb_7 := hb_7.upd a10 n_4__7.symm
    have hb_10 := hb_10.upd a10 n_4__10.symm
    have szB := Nat.le_trans szB a10.size
    have o := o.updD a10 d4
    have szD := Nat.le_trans szD a10.size
    have hb_4 : Has w10 b_4 ([.slice (some ⟨b_10, 0, none⟩) size size, .slice a_u ((freeB size (size - cnt 10 l)).map fun x => [i6 x]).length c_u]) _ := hb_4.now (by kernel_rfl)
    refine RD.backW rfl (a10.mono fun k _ e => e ▸ (.inl (rfl))) ?_
    refine RD.take 5 rfl (by kernel_rfl) (by kernel_rfl) (by kernel_rfl) (fun w' s' => .assign rfl) rfl rfl ?_
    refine RD.done (by kernel_rfl) (RC.back ?_)
    refine RC.done (rs := [.cell 4 34, .tmp 5]) (vs := [_, _]) rfl rfl ⟨⟨_, rfl, .inr ⟨[.slice (some ⟨b_10, 0, none⟩) size size, .slice a_u ((freeB size (size - cnt 10 l)).map fun x => [i6 x]).length c_u], sh34, hb_4.row, rfl⟩⟩, rfl, trivial⟩ ?_
    -- end 1
    have kc := o.form
    obtain ⟨_, c', e, hk⟩ := kc
    cases e
    rw [List.length_map] at hk
    have hns := hB.len
    simp only [] at hns
    refine ⟨_, r, some ⟨b_10, 0, none⟩, a_u, size, c_u, ?_, hB, by rw [hB.len]; exact Nat.le_refl _, hk, fun N hN u hu => ⟨?_, (o.imm (N := N) (fun k hk => by have := hN k hk; omega)) u hu, hB.nok hok, ?_⟩, S⟩
    · show tup [Value.agg _, _] = _
      simp only [arV, hns, List.length_map]
      rfl
    · exact Has.sl0 (hb_10.step hu (fun e => by have := hN _ e; omega)) (fun r hr => by obtain ⟨z, _, rfl⟩ := List.mem_map.1 hr; rfl)
    · intro x hx
      have := freeB_mem.1 hx
      unfold I64
      omega
end Go.Proofs.Ytbfjobmebkhblaa
set_option linter.unusedVariables false
set_option linter.unusedSimpArgs false
namespace Go.Proofs.Ytbfjobmebkhblaa
open Go Go.XL
section
variable {H : Type} {enc : TypeId × Value → H} {W : World} {base : Nat} {sp : Nat → Bool} {held : Bool} {v : Value} {d : DataW H} {ps : List MemPlace} {r : Reach} {b : Nat}
set_option maxRecDepth 100000 in
theorem open_i64s (hok : Value.okWide Try.prog W r b 25 v) (h : DataW.Trod enc Try.prog W base sp held 25 v d ps) : ∃ (a : Option Addr) (l : List Int) (c : Nat), v = .slice a l.length c ∧ l.length ≤ c ∧ c ≤ maxLen ∧ Sl W a 1 (l.map fun x => [i6 x]) ∧ ∀ x ∈ l, I64 x :=
  open_sl (fun x => [i6 x]) I64 sl25 rfl rfl fit_int hok h
end
end Go.Proofs.Ytbfjobmebkhblaa
set_option linter.unusedVariables false
set_option linter.unusedSimpArgs false
namespace Go.Proofs.Ytbfjobmebkhblaa
open Go Go.XL
theorem tab_of {A : Ar} {r : Int} {L : List It} (hA : AOk A) (h : IsH A 10 r L) (hap : Ap L) (hl : L.length ≤ 200) : isTab A r := ⟨hA, L, h, hap, hl⟩
theorem put_twoH {A B : Ar} {r key v r' e : Int} {L : List It} (h : PutPH A r key v B r' e) (hm : isTab A r) (hL : IsH A 10 r L) (hap : Ap L) :
    (BadH L key → e = 5 ∧ r' = 0) ∧ (¬ BadH L key → e = 2 ∧ A.free.length < cnt 10 (putM L key v) ∨ e = 0 ∧ Ext A B ∧ AOk B ∧ A.free.length ≤ B.free.length + cnt 10 (putM L key v) ∧ IsH B 10 r' (putM L key v)) := by
  obtain ⟨_, h2, h3⟩ := h
  refine ⟨fun hb => ?_, fun hb => ?_⟩
  · rcases h3 L hm hL hap with h | h | h
    · exact ⟨h.2, (h2 (by omega)).2⟩
    · exact absurd hb h.1
    · exact absurd hb h.1
  · rcases h3 L hm hL hap with h | h | h
    · exact absurd h.1 hb
    · exact .inl h.2
    · exact .inr h.2
theorem del_twoH {A B : Ar} {r key r' e : Int} {L : List It} (h : DelPH A r key B r' e) (hm : isTab A r) (hL : IsH A 10 r L) (hap : Ap L) :
    (hasK L key = false → e = 3 ∧ r' = 0) ∧ (hasK L key = true → e = 2 ∧ A.free.length < cnt 10 (delL L key) ∨ e = 0 ∧ Ext A B ∧ AOk B ∧ A.free.length ≤ B.free.length + cnt 10 (delL L key) ∧ IsH B 10 r' (delL L key)) := by
  obtain ⟨_, h2, h3⟩ := h
  refine ⟨fun hb => ?_, fun hb => ?_⟩
  · rcases h3 L hm hL hap with h | h | h
    · exact ⟨h.2, (h2 (by omega)).2⟩
    · rw [hb] at h; cases h.1
    · rw [hb] at h; cases h.1
  · rcases h3 L hm hL hap with h | h | h
    · rw [hb] at h; cases h.1
    · exact .inl h.2
    · exact .inr h.2
/-- a put that must go well -/
theorem PutPH.good {A B : Ar} {r key v r' e : Int} {L : List It} (h : PutPH A r key v B r' e) (hA : AOk A) (hL : IsH A 10 r L) (hap : Ap L) (hl : L.length < 9) (hk : -1073741824 ≤ key ∧ key ≤ 1073741824) (hf : 12 * (L.length + 1) ≤ A.free.length) :
    e = 0 ∧ Ext A B ∧ AOk B ∧ A.free.length ≤ B.free.length + cnt 10 (putM L key v) ∧ IsH B 10 r' (putM L key v) := by
  have hs := shL_le key L
  have hc := cnt_le 10 (putM L key v)
  have hpl := putM_len (key := key) (v := v) hap
  have hb : ¬ BadH L key := fun h => h.elim (by omega) (fun h => h.elim (by omega) (fun h => by omega))
  rcases (put_twoH h (tab_of hA hL hap (by omega)) hL hap).2 hb with h | h
  · omega
  · exact h
end Go.Proofs.Ytbfjobmebkhblaa
set_option linter.unusedVariables false
set_option linter.unusedSimpArgs false
namespace Go.Proofs.Ytbfjobmebkhblaa
open Go Go.XL
section
variable {σ α : Type} {nx : σ → α → σ × Bool} {s : σ}
theorem pushF_one (z : α) : pushF nx s [z] = nx s z := by
  simp only [pushF]
  split
  · rename_i h; exact Prod.ext rfl h.symm
  · rename_i h; exact Prod.ext rfl (by simpa using h)
theorem pushF_take {ks : List α} {j : Nat} {z : α} (hz : ks[j]? = some z) (h : (pushF nx s (ks.take j)).2 = true) : pushF nx s (ks.take (j + 1)) = nx (pushF nx s (ks.take j)).1 z := by
  rw [List.take_add_one, hz, pushF_app h]; exact pushF_one z
theorem pushF_stop {ks : List α} {j : Nat} (h : (pushF nx s (ks.take j)).2 = false) : pushF nx s ks = pushF nx s (ks.take j) := by
  conv => lhs; rw [← List.take_append_drop j ks]
  exact pushF_l h
theorem pushF_sum {cnt : σ → Nat} {lenK : α → Nat} (h : ∀ s x, cnt (nx s x).1 ≤ cnt s + lenK x) : ∀ (L : List α) (s : σ), cnt (pushF nx s L).1 ≤ cnt s + (L.map lenK).sum
  | [], s => Nat.le_add_right _ _
  | x :: L, s => by
    have h1 := h s x
    rw [pushF, List.map_cons, List.sum_cons]
    split
    · have := pushF_sum h L (nx s x).1; omega
    · simp only []; omega
theorem sum_take {lenK : α → Nat} {ks : List α} {j : Nat} {z : α} (hz : ks[j]? = some z) : ((ks.take j).map lenK).sum + lenK z ≤ (ks.map lenK).sum := by
  have e : (ks.map lenK).sum = ((ks.take (j + 1)).map lenK).sum + ((ks.drop (j + 1)).map lenK).sum := by
    rw [← List.sum_append, ← List.map_append, List.take_append_drop]
  rw [e, List.take_add_one, hz, List.map_append, List.sum_append]
  simp
end
/-- a row of rows -/
theorem pushF_flat {σ α β : Type} {step : σ → β → σ × Bool} (f : α → List β) : ∀ (ks : List α) (s : σ), pushF (fun s z => pushF step s (f z)) s ks = pushF step s (ks.flatMap f)
  | [], s => rfl
  | z :: ks, s => by
    rw [List.flatMap_cons, pushF]
    by_cases h : (pushF step s (f z)).2 = true
    · rw [if_pos h, pushF_app h, pushF_flat f ks]
    · rw [if_neg h, pushF_l (by simpa using h)]
      exact Prod.ext rfl (by simpa using h)
/-- what a function that goes over references owes -/
def IdxT {σ : Type} (g : FuncId) (cs : List Value) (ks : List Int) (cnt : σ → Nat) (N : Nat) (lenK : Int → Nat) (I : World → Prop) (H : σ → Bool → (Nat → Prop) → World → Prop) (nx : σ → Int → σ × Bool) : Prop :=
  ∀ z ∈ ks, ∀ (s : σ) (C M : Nat → Prop) (W : World), cnt s + lenK z ≤ N → Ft M I W → (∀ k, M k → ¬ C k) → Ft C (H s true C) W → FC Try.prog g ([u6 z] ++ cs) W (fun v w' => ∃ C', v = .bool (!(nx s z).2) ∧ Ft C' (H (nx s z).1 (nx s z).2 C') w' ∧ Agr C W w' ∧ Up C W C')
theorem c_idxK {σ : Type} (g : FuncId) (hg : calleeOK Try.prog g = true) (cs : List Value) (ks : List Int) (a : Option Addr) (c : Nat) (hk : ks.length ≤ 1000) (cnt : σ → Nat) (N : Nat) (lenK : Int → Nat) (I : World → Prop) (H : σ → Bool → (Nat → Prop) → World → Prop) (nx : σ → Int → σ × Bool) (hc : ∀ s x, cnt (nx s x).1 ≤ cnt s + lenK x) (hT : IdxT g cs ks cnt N lenK I H nx) (hI : ∀ u, I u → Sl u a 1 (ks.map fun x => [u6 x]))
    (s : σ) (C M : Nat → Prop) (w : World) (m : Nat) (hm : m = ks.length) (hN : cnt s + (ks.map lenK).sum ≤ N) (hM : Ft M I w) (hMC : ∀ k, M k → ¬ C k) (hH : Ft C (H s true C) w) :
    FC Try.prog 107 [.slice a m c, .func (.func g) #[] cs.toArray] w (fun v w' => ∃ C' n, v = .int .i64 n ∧ (0 ≤ n ↔ (pushF nx s ks).2 = false) ∧ Ft C' (H (pushF nx s ks).1 (pushF nx s ks).2 C') w' ∧ Agr C w w' ∧ Up C w C') := by
  subst hm
  have hlen : ks.length < 9223372036854775807 := by omega
  refine FC.intro Try.func107 rfl Try.ntmps107 rfl ?_
  have G : Agr C w w := Agr.refl _ _
  refine RC.seq ?_
  refine RC.region rfl ?_
  refine RL.ev (.assign rfl) rfl rfl ?_
  refine RL.nil (RC.back ?_)
  refine RC.seq ?_
  refine RC.seq ?_
  refine RC.region rfl ?_
  refine RL.ev (.move rfl) rfl rfl ?_
  refine RL.ev (.len sl118 rfl) rfl rfl ?_
  refine RL.ev (.move rfl) rfl rfl ?_
  refine RL.nil (RC.back ?_)
  refine RC.block ?_
  refine RC.loop (α := Nat × (Nat → Prop)) (fun x => [(0, .slice a ks.length c), (1, .func (.func g) #[] cs.toArray), (7, .int .i64 (ks.length : Int)), (8, .int .i64 (x.1 : Int))]) (fun x w1 => (x.1 ≤ ks.length ∧ (pushF nx s (ks.take x.1)).2 = true) ∧ Ft x.2 (H (pushF nx s (ks.take x.1)).1 true x.2) w1 ∧ Ft M I w1 ∧ (∀ k, M k → ¬ x.2 k) ∧ Agr C w w1 ∧ Up C w x.2) (fun x => ks.length - x.1) (0, C) (keep_of (by repeat (first | exact trivial | refine And.intro rfl ?_))) (⟨⟨Nat.zero_le _, rfl⟩, hH, hM, hMC, G, Up.refl _ _⟩) (fun x w1 hJ => ?_)
  obtain ⟨j, Cj⟩ := x; obtain ⟨⟨hj, ht⟩, hH, hM, hMC, G, up⟩ := hJ; simp only [] at hj ht hH hMC up; have hsl := hI _ hM.now; have hsum := pushF_sum hc (ks.take j) s
  refine RC.seq ?_
  refine RC.region rfl ?_
  refine RL.ev (.bin rfl rfl rfl) rfl rfl ?_
  refine RL.nil (RC.back ?_)
  refine RC.seq ?_
  refine RC.cond_dec rfl (fun h2 => ?_) (fun h2 => ?_)
  ·
    obtain ⟨z, hz⟩ := getSome (l := ks) (i := j) (by omega)
    have hst := sum_take (lenK := lenK) hz
    refine RC.skip (RC.back ?_)
    refine RC.seq ?_
    refine RC.block ?_
    refine RC.seq ?_
    refine RC.region rfl ?_
    refine RL.ev (.move rfl) rfl rfl ?_
    refine RL.ev (.assign rfl) rfl rfl ?_
    refine RL.nil (RC.back ?_)
    refine RC.seq ?_
    refine RC.region rfl ?_
    refine RL.ev (.move rfl) rfl rfl ?_
    refine RL.ev (.move rfl) rfl rfl ?_
    refine RL.ev (.move rfl) rfl rfl ?_
    refine RL.ev (.indexS sl118 rfl rfl (by omega) (hsl.is (i := j) (by simp only [List.length_map]; omega))) rfl rfl ?_
    refine RL.ev (.load1 sh36 rfl (hsl.one (enc := u6) (i := j) hz)) rfl rfl ?_
    refine RL.callv rfl rfl (us := []) (cs := cs) hg (hT z (List.mem_of_getElem? hz) _ Cj M w1 (by omega) hM hMC hH) rfl rfl ?_
    rintro _ w3 ⟨C1, rfl, hH1, ag, up1⟩
    have hMC1 : ∀ k, M k → ¬ C1 k := fun k hk => up1.not (hM.lt k hk) (hMC k hk)
    have hM := hM.step ag hMC
    have up1 := up.trans (up1.le G.size)
    have G := G.up up ag
    rw [← pushF_take hz ht] at hH1
    have hH := hH1
    rw [← pushF_take hz ht]
    refine RL.nil (RC.back ?_)
    refine RC.cond rfl (fun h5 => ?_) (fun h5 => ?_)
    ·
      have q1 : (pushF nx s (ks.take (j + 1))).2 = false := (by simpa using h5)
      have hpe := pushF_stop q1
      refine RC.seq ?_
      refine RC.region rfl ?_
      refine RL.ev (.move rfl) rfl rfl ?_
      refine RL.ev (.assign rfl) rfl rfl ?_
      refine RL.nil (RC.back ?_)
      refine RC.done (rs := [.tmp 4]) (vs := [_]) rfl rfl ⟨rfl, trivial⟩ ?_
      -- end 1
      rw [hpe]
      exact ⟨C1, (j : Int), rfl, ⟨fun _ => q1, fun _ => by omega⟩, hH, G, up1⟩
    ·
      have q1 : (pushF nx s (ks.take (j + 1))).2 = true := (by simpa using h5)
      refine RC.skip (RC.back ?_)
      refine RC.region rfl ?_
      refine RL.ev (.as (.bin rfl rfl rfl) (wi64 (y := ((j + 1 : Nat) : Int)) (by omega) (by omega))) rfl rfl ?_
      refine RL.ev (.move rfl) rfl rfl ?_
      exact RL.nil (fun a ka => ⟨(j + 1, C1), ⟨⟨by simp only []; omega, q1⟩, (by rw [q1] at hH; exact hH), hM, hMC1, G, up1⟩, by omega, ka.keep (keep_of (by repeat (first | exact trivial | refine And.intro rfl ?_)))⟩)
  ·
    obtain rfl : j = ks.length := (by omega)
    rw [List.take_length] at ht hH
    refine RC.exit rfl (RC.back ?_)
    refine RC.seq ?_
    refine RC.region rfl ?_
    refine RL.ev (.assign rfl) rfl rfl ?_
    refine RL.nil (RC.back ?_)
    refine RC.done (rs := [.tmp 4]) (vs := [_]) rfl rfl ⟨rfl, trivial⟩ ?_
    -- end 2
    exact ⟨Cj, -1, rfl, ⟨fun h => by omega, fun h => by rw [ht] at h; cases h⟩, (by rw [ht]; exact hH), G, up⟩
theorem c_containsK {σ : Type} (g : FuncId) (hg : calleeOK Try.prog g = true) (cs : List Value) (ks : List Int) (a : Option Addr) (c : Nat) (hk : ks.length ≤ 1000) (cnt : σ → Nat) (N : Nat) (lenK : Int → Nat) (I : World → Prop) (H : σ → Bool → (Nat → Prop) → World → Prop) (nx : σ → Int → σ × Bool) (hc : ∀ s x, cnt (nx s x).1 ≤ cnt s + lenK x) (hT : IdxT g cs ks cnt N lenK I H nx) (hI : ∀ u, I u → Sl u a 1 (ks.map fun x => [u6 x]))
    (s : σ) (C M : Nat → Prop) (w : World) (m : Nat) (hm : m = ks.length) (hN : cnt s + (ks.map lenK).sum ≤ N) (hM : Ft M I w) (hMC : ∀ k, M k → ¬ C k) (hH : Ft C (H s true C) w) :
    FC Try.prog 99 [.slice a m c, .func (.func g) #[] cs.toArray] w (fun v w' => ∃ C', v = .bool (!(pushF nx s ks).2) ∧ Ft C' (H (pushF nx s ks).1 (pushF nx s ks).2 C') w' ∧ Agr C w w' ∧ Up C w C') := by
  refine FC.intro Try.func99 rfl Try.ntmps99 rfl ?_
  refine RC.seq ?_
  refine RC.region rfl ?_
  refine RL.ev (.assign rfl) rfl rfl ?_
  refine RL.nil (RC.back ?_)
  refine RC.seq ?_
  refine RC.region rfl ?_
  refine RL.ev (.move rfl) rfl rfl ?_
  refine RL.ev (.move rfl) rfl rfl ?_
  refine RL.call rfl ok107 (c_idxK g hg cs ks a c hk cnt N lenK I H nx hc hT hI s C M w m hm hN hM hMC hH) rfl rfl ?_
  rintro _ w1 ⟨C1, n, rfl, hn, hH1, ag, up⟩
  refine RL.ev (.as (v' := .bool (!(pushF nx s ks).2)) (.bin rfl rfl rfl) (by exact congrArg Value.bool (by rw [Bool.eq_iff_iff, decide_eq_true_iff, hn, Bool.not_eq_true']))) rfl rfl ?_
  refine RL.ev (.assign rfl) rfl rfl ?_
  refine RL.nil (RC.back ?_)
  refine RC.done (rs := [.tmp 4]) (vs := [_]) rfl rfl ⟨rfl, trivial⟩ ?_
  -- end 1
  exact ⟨C1, rfl, hH1, ag, up⟩
/-- what is read while a table's keys are handed on -/
def PuI (na fa : Option Addr) (nc fc : Nat) (A : Ar) (l b3 b5 b7 : Nat) (y : Node) (u : World) : Prop :=
  ArR u na fa A ∧ Has u b3 [.slice na A.nodes.length nc, .slice fa A.free.length fc] 34 ∧ Has u b5 [.func (.yield l) #[] #[]] 83 ∧ Has u b7 y.cells 97
/-- a push of a reference's keys -/
def PuT {σ : Type} (l : Nat) (H : σ → Bool → (Nat → Prop) → World → Prop) (step : σ → It → σ × Bool) (cnt : σ → Nat) (N : Nat) (A : Ar) (na fa : Option Addr) (nc fc : Nat) (r : Int) (L : List It) : Prop :=
  ∀ (s : σ) (C M : Nat → Prop) (w : World), cnt s + L.length ≤ N → Ft M (fun u => ArR u na fa A) w → (∀ k, M k → ¬ C k) → Ft C (H s true C) w →
    FC Try.prog 75 [arV na fa nc fc A, .int .u64 r, .func (.yield l) #[] #[]] w (fun v w' => ∃ C', v = .bool (pushF step s L).2 ∧ Ft C' (H (pushF step s L).1 (pushF step s L).2 C') w' ∧ Agr C w w' ∧ Up C w C')
theorem c_push1W {σ : Type} (l : Nat) (H : σ → Bool → (Nat → Prop) → World → Prop) (step : σ → It → σ × Bool) (cnt : σ → Nat) (N : Nat) (hc : ∀ s x, cnt (step s x).1 ≤ cnt s + 1) (hT : YT Try.prog l It.val It.ok cnt N H step) (A : Ar) (na fa : Option Addr) (nc fc : Nat) (b3 b5 b7 : Nat) (y : Node) (z : Int) (L : List It) (hp : PuT l H step cnt N A na fa nc fc z L) (s : σ) (C M : Nat → Prop) (w : World) (hN : cnt s + L.length ≤ N) (hM : Ft M (PuI na fa nc fc A l b3 b5 b7 y) w) (hMC : ∀ k, M k → ¬ C k) (hH : Ft C (H s true C) w) :
    FC Try.prog 100 ([u6 z] ++ [.pointer (some ⟨b3, 0, none⟩), .pointer (some ⟨b5, 0, none⟩)]) w (fun v w' => ∃ C', v = .bool (!(pushF step s L).2) ∧ Ft C' (H (pushF step s L).1 (pushF step s L).2 C') w' ∧ Agr C w w' ∧ Up C w C') := by
  obtain ⟨hA, h3, h5, h7⟩ := hM.now
  refine FC.intro Try.func100 rfl Try.ntmps100 rfl ?_
  refine RC.seq ?_
  refine RC.region rfl ?_
  refine RL.ev (.assign rfl) rfl rfl ?_
  refine RL.nil (RC.back ?_)
  refine RC.seq ?_
  refine RC.region rfl ?_
  refine RL.ev (.loadR ([.slice na A.nodes.length nc, .slice fa A.free.length fc]) sh34 rfl h3.row rfl) rfl rfl ?_
  refine RL.ev (.move rfl) rfl rfl ?_
  refine RL.ev (.load1 sh83 rfl (h5.cell rfl)) rfl rfl ?_
  refine RL.call rfl ok75 (hp s C M w hN (hM.imp fun u h => h.1) hMC hH) rfl rfl ?_
  rintro _ w1 ⟨C1, rfl, hH1, ag, up⟩
  refine RL.ev (.not rfl) rfl rfl ?_
  refine RL.ev (.assign rfl) rfl rfl ?_
  refine RL.nil (RC.back ?_)
  refine RC.done (rs := [.tmp 4]) (vs := [_]) rfl rfl ⟨rfl, trivial⟩ ?_
  -- end 1
  exact ⟨C1, rfl, hH1, ag, up⟩
theorem c_pushNil {σ : Type} (l : Nat) (H : σ → Bool → (Nat → Prop) → World → Prop) (step : σ → It → σ × Bool) (cnt : σ → Nat) (N : Nat) (hc : ∀ s x, cnt (step s x).1 ≤ cnt s + 1) (hT : YT Try.prog l It.val It.ok cnt N H step) (A : Ar) (na fa : Option Addr) (nc fc : Nat) (s0 : Unit) : PuT l H step cnt N A na fa nc fc 0 [] := by
  intro s C M w hN hA hMC hH
  refine FC.introY Try.func75 rfl Try.ntmps75 rfl ?_
  have G : Agr C w w := Agr.refl _ _
  refine RC.seq ?_
  refine RC.region rfl ?_
  refine RL.box rfl rfl rfl (fun b_3 w_3 e_3 z_3 hb_3 s_3 => ?_)
  have d_hH_b_3 := hH.neNew e_3
  have geG_3 := agLe G e_3
  have G := G.trans s_3.agr
  have hH := hH.sub s_3
  have hb_3 : Has w_3 b_3 ([.slice na A.nodes.length nc, .slice fa A.free.length fc]) _ := hb_3
  refine RL.box rfl rfl rfl (fun b_5 w_5 e_5 z_5 hb_5 s_5 => ?_)
  have n_3__5 := hb_3.ne e_5
  have d_hH_b_5 := hH.neNew e_5
  have geG_5 := agLe G e_5
  have G := G.trans s_5.agr
  have hH := hH.sub s_5
  have hb_3 := hb_3.sub s_5
  refine RL.ev (.assign rfl) rfl rfl ?_
  refine RL.nil (RC.back ?_)
  refine RC.seq ?_
  refine RC.seq ?_
  refine RC.region rfl ?_
  refine RL.ev (.move rfl) rfl rfl ?_
  refine RL.ev (.bin rfl rfl rfl) rfl rfl ?_
  refine RL.nil (RC.back ?_)
  refine RC.cond_dec rfl (fun h1 => ?_) (fun h1 => ?_)
  ·
    refine RC.seq ?_
    refine RC.region rfl ?_
    refine RL.ev (.assign rfl) rfl rfl ?_
    refine RL.nil (RC.back ?_)
    refine RC.done (rs := [.tmp 6]) (vs := [_]) rfl rfl ⟨rfl, trivial⟩ ?_
    -- end 1
    exact ⟨C, rfl, hH, G, Up.refl _ _⟩
  ·
    exact absurd rfl h1
theorem c_pushLeaf {σ : Type} (l : Nat) (H : σ → Bool → (Nat → Prop) → World → Prop) (step : σ → It → σ × Bool) (cnt : σ → Nat) (N : Nat) (hc : ∀ s x, cnt (step s x).1 ≤ cnt s + 1) (hT : YT Try.prog l It.val It.ok cnt N H step) (A : Ar) (na fa : Option Addr) (nc fc : Nat) (r : Int) (hr : U64 r) (x : It) (hx : lfA A r x) : PuT l H step cnt N A na fa nc fc r [x] := by
  intro s C M w hNn hA hMC hH
  obtain ⟨g, hg⟩ := hx
  have hyo := hA.now.nok _ (getA_nok hg)
  have hr0 := getA_nz hg
  have hCw : ∀ k, C k → k < w.heap.size := hH.lt
  rw [List.length_singleton] at hNn
  refine FC.introY Try.func75 rfl Try.ntmps75 rfl ?_
  have G : Agr C w w := Agr.refl _ _
  refine RC.seq ?_
  refine RC.region rfl ?_
  refine RL.box rfl rfl rfl (fun b_3 w_3 e_3 z_3 hb_3 s_3 => ?_)
  have d_hA_b_3 := hA.neNew e_3
  have d_hH_b_3 := hH.neNew e_3
  have geG_3 := agLe G e_3
  have G := G.trans s_3.agr
  have hA := hA.sub s_3
  have hH := hH.sub s_3
  have hb_3 : Has w_3 b_3 ([.slice na A.nodes.length nc, .slice fa A.free.length fc]) _ := hb_3
  refine RL.box rfl rfl rfl (fun b_5 w_5 e_5 z_5 hb_5 s_5 => ?_)
  have n_3__5 := hb_3.ne e_5
  have d_hA_b_5 := hA.neNew e_5
  have d_hH_b_5 := hH.neNew e_5
  have geG_5 := agLe G e_5
  have G := G.trans s_5.agr
  have hA := hA.sub s_5
  have hH := hH.sub s_5
  have hb_3 := hb_3.sub s_5
  refine RL.ev (.assign rfl) rfl rfl ?_
  refine RL.nil (RC.back ?_)
  refine RC.seq ?_
  refine RC.seq ?_
  refine RC.region rfl ?_
  refine RL.ev (.move rfl) rfl rfl ?_
  refine RL.ev (.bin rfl rfl rfl) rfl rfl ?_
  refine RL.nil (RC.back ?_)
  refine RC.cond_dec rfl (fun h1 => ?_) (fun h1 => ?_)
  ·
    exact absurd h1 hr0
  ·
    refine RC.skip (RC.back ?_)
    refine RC.seq ?_
    refine RC.region rfl ?_
    refine RL.ev (.loadR ([.slice na A.nodes.length nc, .slice fa A.free.length fc]) sh34 rfl hb_3.row rfl) rfl rfl ?_
    refine RL.ev (.move rfl) rfl rfl ?_
    refine RL.call rfl ok94 (c_aGet A na fa nc fc r hr w_5 hA.now) rfl rfl ?_
    rintro _ w2 ⟨rfl, s3⟩
    have G := G.trans s3.agr
    have hA := hA.sub s3
    have hH := hH.sub s3
    have hb_3 := hb_3.sub s3
    have hb_5 := hb_5.sub s3
    refine RL.ev (.as (v' := .tuple #[(hN 3 g x.k x.v 0 []).val, .int .i64 0]) (.move rfl) (by rw [getV_yes hg])) rfl rfl ?_
    refine RL.ev (.extract rfl rfl) rfl rfl ?_
    refine RL.ev (.extract rfl rfl) rfl rfl ?_
    refine RL.alloc ze97 rfl rfl (fun b_7 w_7 e_7 z_7 hb_7 s_7 => ?_)
    have n_3__7 := hb_3.ne e_7
    have n_5__7 := hb_5.ne e_7
    have d_hA_b_7 := hA.neNew e_7
    have d_hH_b_7 := hH.neNew e_7
    have geG_7 := agLe G e_7
    have G := G.trans s_7.agr
    have hA := hA.sub s_7
    have hH := hH.sub s_7
    have hb_3 := hb_3.sub s_7
    have hb_5 := hb_5.sub s_7
    refine RL.store sh97 rfl rfl rfl hb_7 (by exact Nat.le_of_ble_eq_true rfl) (by rfl) rfl (fun w4 z4 hb_7 a4 => ?_)
    have G := agNew G a4 geG_7
    have hA := hA.updD a4 d_hA_b_7
    have hH := hH.updD a4 d_hH_b_7
    have hb_3 := hb_3.upd a4 n_3__7
    have hb_5 := hb_5.upd a4 n_5__7
    have hb_7 : Has w4 b_7 ((hN 3 g x.k x.v 0 []).cells) _ := hb_7.now (by kernel_rfl)
    refine RL.ev (.assign rfl) rfl rfl ?_
    refine RL.nil (RC.back ?_)
    refine RC.seq ?_
    refine RC.seq ?_
    refine RC.region rfl ?_
    refine RL.ev (.field0 fo97_0 rfl) rfl rfl ?_
    refine RL.ev (.load1 sh3 rfl (hb_7.cell rfl)) rfl rfl ?_
    refine RL.ev (.as (v' := .bool true) (.bin rfl rfl rfl) (congrArg Value.bool (decide_eq_true (rfl)))) rfl rfl ?_
    refine RL.nil (RC.back ?_)
    refine RC.cond_t rfl ?_
    refine RC.seq ?_
    refine RC.region rfl ?_
    refine RL.ev (.load1 sh83 rfl (hb_5.cell rfl)) rfl rfl ?_
    refine RL.ev (.field0 fo97_2 rfl) rfl rfl ?_
    refine RL.ev (.load1 sh2 rfl (hb_7.cell rfl)) rfl rfl ?_
    refine RL.ev (.field0 fo97_3 rfl) rfl rfl ?_
    refine RL.ev (.load1 sh2 rfl (hb_7.cell rfl)) rfl rfl ?_
    refine RL.ev (.as (v' := x.val) (.buildS ze29 pl29 rfl rfl) (by rfl)) rfl rfl ?_
    refine RL.yield rfl rfl (hT s x C w4 ⟨hyo.n, hyo.v⟩ (by omega) hH) rfl rfl ?_
    rintro _ w5 ⟨C2, rfl, hH2, ag2, up2⟩
    have up2 := up2.le G.size
    have G := G.trans ag2
    refine RL.ev (.assign rfl) rfl rfl ?_
    refine RL.nil (RC.back ?_)
    refine RC.done (rs := [.tmp 6]) (vs := [_]) rfl rfl ⟨rfl, trivial⟩ ?_
    -- end 1
    rw [pushF_one]
    exact ⟨C2, rfl, hH2, G, up2⟩
theorem c_pushNode {σ : Type} (l : Nat) (H : σ → Bool → (Nat → Prop) → World → Prop) (step : σ → It → σ × Bool) (cnt : σ → Nat) (N : Nat) (hc : ∀ s x, cnt (step s x).1 ≤ cnt s + 1) (hT : YT Try.prog l It.val It.ok cnt N H step) (A : Ar) (na fa : Option Addr) (nc fc : Nat) (r : Int) (hr : U64 r) (y : Node) (hy : getA A r = some y) (h3 : ¬ y.kind = 3) (f : Int → List It) (hf : ∀ z ∈ y.kids, PuT l H step cnt N A na fa nc fc z (f z)) : PuT l H step cnt N A na fa nc fc r (y.kids.flatMap f) := by
  intro s C M w hN hA hMC hH
  have hyo := hA.now.nok _ (getA_nok hy)
  have hr0 := getA_nz hy
  have hCw : ∀ k, C k → k < w.heap.size := hH.lt
  have hfl : (y.kids.flatMap f).length = (y.kids.map fun z => (f z).length).sum := by rw [List.length_flatMap]
  refine FC.introY Try.func75 rfl Try.ntmps75 rfl ?_
  have G : Agr C w w := Agr.refl _ _
  refine RC.seq ?_
  refine RC.region rfl ?_
  refine RL.box rfl rfl rfl (fun b_3 w_3 e_3 z_3 hb_3 s_3 => ?_)
  have d_hA_b_3 := hA.neNew e_3
  have d_hH_b_3 := hH.neNew e_3
  have geG_3 := agLe G e_3
  have G := G.trans s_3.agr
  have hA := hA.sub s_3
  have hH := hH.sub s_3
  have hb_3 : Has w_3 b_3 ([.slice na A.nodes.length nc, .slice fa A.free.length fc]) _ := hb_3
  refine RL.box rfl rfl rfl (fun b_5 w_5 e_5 z_5 hb_5 s_5 => ?_)
  have n_3__5 := hb_3.ne e_5
  have d_hA_b_5 := hA.neNew e_5
  have d_hH_b_5 := hH.neNew e_5
  have geG_5 := agLe G e_5
  have G := G.trans s_5.agr
  have hA := hA.sub s_5
  have hH := hH.sub s_5
  have hb_3 := hb_3.sub s_5
  refine RL.ev (.assign rfl) rfl rfl ?_
  refine RL.nil (RC.back ?_)
  refine RC.seq ?_
  refine RC.seq ?_
  refine RC.region rfl ?_
  refine RL.ev (.move rfl) rfl rfl ?_
  refine RL.ev (.bin rfl rfl rfl) rfl rfl ?_
  refine RL.nil (RC.back ?_)
  refine RC.cond_dec rfl (fun h1 => ?_) (fun h1 => ?_)
  ·
    exact absurd h1 hr0
  ·
    refine RC.skip (RC.back ?_)
    refine RC.seq ?_
    refine RC.region rfl ?_
    refine RL.ev (.loadR ([.slice na A.nodes.length nc, .slice fa A.free.length fc]) sh34 rfl hb_3.row rfl) rfl rfl ?_
    refine RL.ev (.move rfl) rfl rfl ?_
    refine RL.call rfl ok94 (c_aGet A na fa nc fc r hr w_5 hA.now) rfl rfl ?_
    rintro _ w2 ⟨rfl, s3⟩
    have G := G.trans s3.agr
    have hA := hA.sub s3
    have hH := hH.sub s3
    have hb_3 := hb_3.sub s3
    have hb_5 := hb_5.sub s3
    refine RL.ev (.as (v' := .tuple #[y.val, .int .i64 0]) (.move rfl) (by rw [getV_yes hy])) rfl rfl ?_
    refine RL.ev (.extract rfl rfl) rfl rfl ?_
    refine RL.ev (.extract rfl rfl) rfl rfl ?_
    refine RL.alloc ze97 rfl rfl (fun b_7 w_7 e_7 z_7 hb_7 s_7 => ?_)
    have n_3__7 := hb_3.ne e_7
    have n_5__7 := hb_5.ne e_7
    have d_hA_b_7 := hA.neNew e_7
    have d_hH_b_7 := hH.neNew e_7
    have geG_7 := agLe G e_7
    have G := G.trans s_7.agr
    have hA := hA.sub s_7
    have hH := hH.sub s_7
    have hb_3 := hb_3.sub s_7
    have hb_5 := hb_5.sub s_7
    refine RL.store sh97 rfl rfl rfl hb_7 (by exact Nat.le_of_ble_eq_true rfl) (by rfl) rfl (fun w4 z4 hb_7 a4 => ?_)
    have G := agNew G a4 geG_7
    have hA := hA.updD a4 d_hA_b_7
    have hH := hH.updD a4 d_hH_b_7
    have hb_3 := hb_3.upd a4 n_3__7
    have hb_5 := hb_5.upd a4 n_5__7
    have hb_7 : Has w4 b_7 (y.cells) _ := hb_7.now (by kernel_rfl)
    refine RL.ev (.assign rfl) rfl rfl ?_
    refine RL.nil (RC.back ?_)
    refine RC.seq ?_
    refine RC.seq ?_
    refine RC.region rfl ?_
    refine RL.ev (.field0 fo97_0 rfl) rfl rfl ?_
    refine RL.ev (.load1 sh3 rfl (hb_7.cell rfl)) rfl rfl ?_
    refine RL.ev (.as (v' := .bool false) (.bin rfl rfl rfl) (congrArg Value.bool (decide_eq_false (h3)))) rfl rfl ?_
    refine RL.nil (RC.back ?_)
    refine RC.cond_f rfl ?_
    refine RC.skip (RC.back ?_)
    refine RC.seq ?_
    refine RC.region rfl ?_
    refine RL.ev (.field0 fo97_5 rfl) rfl rfl ?_
    refine RL.ev (.sliceArr ar95 rfl) rfl rfl ?_
    refine RL.ev (.func (xs := []) (ys := [_, _]) rfl rfl) rfl rfl ?_
    refine RL.call rfl ok99 (c_containsK 100 ok100 [.pointer (some ⟨b_3, 0, none⟩), .pointer (some ⟨b_5, 0, none⟩)] y.kids (some ⟨b_7, 5, none⟩) 9 (Nat.le_of_ble_eq_true rfl) cnt N (fun z => (f z).length) (PuI na fa nc fc A l b_3 b_5 b_7 y) H (fun s z => pushF step s (f z)) (fun s z => pushF_cnt hc (f z) s) (fun z hz s C M W q1 q2 q3 q4 => c_push1W l H step cnt N hc hT A na fa nc fc b_3 b_5 b_7 y z (f z) (hf z hz) s C M W q1 q2 q3 q4) (fun u h => Has.slPart (enc := u6) (l := y.kids) (pre := [i6 y.kind, i6 y.gen, i6 y.n, i6 y.v, i6 y.s]) (post := [i6 y.pre, i6 y.suf]) h.2.2.2 rfl) s C (fun k => M k ∨ k = b_3 ∨ k = b_5 ∨ k = b_7) w4 9 rfl (by omega) (hA.and (hb_3.ft.and (hb_5.ft.and hb_7.ft))) (fun k hk hC => by rcases hk with hk | hk | hk | hk; exact hMC k hk hC; all_goals (have := hCw k hC; omega)) hH) rfl rfl ?_
    rintro _ w5 ⟨C2, rfl, hH2, ag2, up2⟩
    have up2 := up2.le G.size
    have G := G.trans ag2
    rw [pushF_flat f] at hH2
    rw [pushF_flat f]
    refine RL.ev (.not rfl) rfl rfl ?_
    refine RL.ev (.assign rfl) rfl rfl ?_
    refine RL.nil (RC.back ?_)
    refine RC.done (rs := [.tmp 6]) (vs := [_]) rfl rfl ⟨rfl, trivial⟩ ?_
    -- end 1
    exact ⟨C2, by rw [Bool.not_not]; rfl, hH2, G, up2⟩
end Go.Proofs.Ytbfjobmebkhblaa
set_option linter.unusedVariables false
set_option linter.unusedSimpArgs false
namespace Go.Proofs.Ytbfjobmebkhblaa
open Go Go.XL
/-- a table's keys and values, in the order of its nodes -/
def rowH (A : Ar) (r : Int) : List It := rdF A 12 r
theorem rowH_perm {A : Ar} {r : Int} {L : List It} (h : IsH A 10 r L) : (rowH A r).Perm L := rd_perm (k := 10) (f := 0) h
theorem c_pushAll {σ : Type} (l : Nat) (H : σ → Bool → (Nat → Prop) → World → Prop) (step : σ → It → σ × Bool) (cnt : σ → Nat) (N : Nat) (hc : ∀ s x, cnt (step s x).1 ≤ cnt s + 1) (hT : YT Try.prog l It.val It.ok cnt N H step) (A : Ar) (na fa : Option Addr) (nc fc : Nat) (hn : ∀ x ∈ A.nodes, x.ok) : ∀ (k : Nat) (r : Int) (L : List It), IsH A k r L → U64 r → PuT l H step cnt N A na fa nc fc r (rdF A (k + 2) r)
  | k, r, L, h, hr => by
    have zero : ∀ F, PuT l H step cnt N A na fa nc fc 0 (rdF A F 0) := fun F => by
      rw [rdF_no (getA_z A)]; exact c_pushNil l H step cnt N hc hT A na fa nc fc ()
    rcases row_cases L with rfl | ⟨x, rfl⟩ | h2
    · rw [isH_nil.1 h]; exact zero _
    · rw [rdF_leaf (isH_one.1 h)]; exact c_pushLeaf l H step cnt N hc hT A na fa nc fc r hr x (isH_one.1 h)
    · cases k with
      | zero =>
        obtain ⟨y, m, q1, q2, _, _, _, _, q6, q7, q8⟩ := clash_node ((isH_clash h2).1 h) h2
        have hyo := hn _ (getA_nok q1)
        rw [rdF_node q1 (by omega)]
        refine c_pushNode l H step cnt N hc hT A na fa nc fc r hr y q1 (by omega) _ fun z hz => ?_
        obtain ⟨j, hj⟩ := List.getElem?_of_mem hz
        have hj9 : j < 9 := lt_of_get hj
        by_cases hjm : j < m.length
        · obtain ⟨x, hx⟩ := getSome (l := m) hjm
          have h6 := q7 j x hx
          rw [kid_get hj] at h6
          rw [rdF_leaf h6]
          exact c_pushLeaf l H step cnt N hc hT A na fa nc fc z (hyo.kids z hz) x h6
        · have h6 := q8 j (by omega) hj9
          rw [kid_get hj] at h6
          rw [h6]; exact zero _
      | succ k =>
        obtain ⟨y, q1, q2, _, q4, q5⟩ := trie_zero h h2
        have hyo := hn _ (getA_nok q1)
        rw [show k + 1 + 2 = (k + 2) + 1 by omega, rdF_node q1 (by omega)]
        refine c_pushNode l H step cnt N hc hT A na fa nc fc r hr y q1 (by omega) _ fun z hz => ?_
        obtain ⟨j, hj⟩ := List.getElem?_of_mem hz
        have hj9 : j < 9 := lt_of_get hj
        by_cases hj4 : j < 4
        · have h6 := q4 j hj4
          rw [kid_get hj] at h6
          exact c_pushAll l H step cnt N hc hT A na fa nc fc hn k z _ h6 (hyo.kids z hz)
        · have h6 := q5 j (by omega) hj9
          rw [kid_get hj] at h6
          rw [h6]; exact zero _
theorem c_wleaves1 {σ : Type} (l : Nat) (H : σ → Bool → (Nat → Prop) → World → Prop) (step : σ → It → σ × Bool) (cnt : σ → Nat) (N : Nat) (hc : ∀ s x, cnt (step s x).1 ≤ cnt s + 1) (hT : YT Try.prog l It.val It.ok cnt N H step) (A : Ar) (na fa : Option Addr) (nc fc : Nat) (r : Int) (hr : U64 r) (L : List It) (hL : IsH A 10 r L) (s : σ) (C M : Nat → Prop) (b2 b3 : Nat) (w : World) (hN : cnt s + L.length ≤ N) (hA : Ft M (fun u => ArR u na fa A) w) (hMC : ∀ k, M k → ¬ C k) (hH : Ft C (H s true C) w)
    (h2 : Has w b2 [.slice na A.nodes.length nc, .slice fa A.free.length fc] 34) (h3 : Has w b3 [.int .u64 r] 36) :
    FC Try.prog 74 [.func (.yield l) #[] #[], .pointer (some ⟨b2, 0, none⟩), .pointer (some ⟨b3, 0, none⟩)] w (fun _ w' => ∃ C', Ft C' (H (pushF step s (rowH A r)).1 (pushF step s (rowH A r)).2 C') w' ∧ Agr C w w' ∧ Up C w C') := by
  have hlen := (rowH_perm hL).length_eq
  refine FC.intro Try.func74 rfl Try.ntmps74 rfl ?_
  refine RC.region rfl ?_
  refine RL.ev (.loadR ([.slice na A.nodes.length nc, .slice fa A.free.length fc]) sh34 rfl h2.row rfl) rfl rfl ?_
  refine RL.ev (.load1 sh36 rfl (h3.cell rfl)) rfl rfl ?_
  refine RL.ev (.move rfl) rfl rfl ?_
  refine RL.call rfl ok75 (c_pushAll l H step cnt N hc hT A na fa nc fc hA.now.nok 10 r L hL hr s C M w (by show cnt s + (rowH A r).length ≤ N; omega) hA hMC hH) rfl rfl ?_
  rintro _ w1 ⟨C1, rfl, hH1, ag, up⟩
  refine RL.nil ?_
  refine fun a ka => ⟨ka.defers, _, run_results (rs := []) (vs := []) ka rfl trivial, ?_⟩
  -- end 1
  exact ⟨C1, hH1, ag, up⟩
theorem c_wleaves (A : Ar) (na fa : Option Addr) (nc fc : Nat) (r : Int) (w : World) :
    FC Try.prog 49 [arV na fa nc fc A, .int .u64 r] w (fun v w' => ∃ b2 b3, v = .func (.func 74) #[] #[.pointer (some ⟨b2, 0, none⟩), .pointer (some ⟨b3, 0, none⟩)] ∧ Has w' b2 [.slice na A.nodes.length nc, .slice fa A.free.length fc] 34 ∧ Has w' b3 [.int .u64 r] 36 ∧ Sub w w') := by
  refine FC.intro Try.func49 rfl Try.ntmps49 rfl ?_
  have S := Sub.refl w
  refine RC.seq ?_
  refine RC.region rfl ?_
  refine RL.box rfl rfl rfl (fun b_2 w_2 e_2 z_2 hb_2 s_2 => ?_)
  have ge_2 := S.le e_2
  have S := S.trans s_2
  have hb_2 : Has w_2 b_2 ([.slice na A.nodes.length nc, .slice fa A.free.length fc]) _ := hb_2
  refine RL.box rfl rfl rfl (fun b_3 w_3 e_3 z_3 hb_3 s_3 => ?_)
  have ge_3 := S.le e_3
  have n_2__3 := hb_2.ne e_3
  have S := S.trans s_3
  have hb_2 := hb_2.sub s_3
  refine RL.ev (.assign rfl) rfl rfl ?_
  refine RL.nil (RC.back ?_)
  refine RC.seq ?_
  refine RC.region rfl ?_
  refine RL.ev (.func (xs := []) (ys := [_, _]) rfl rfl) rfl rfl ?_
  refine RL.ev (.assign rfl) rfl rfl ?_
  refine RL.nil (RC.back ?_)
  refine RC.done (rs := [.tmp 4]) (vs := [_]) rfl rfl ⟨rfl, trivial⟩ ?_
  -- end 1
  exact ⟨b_2, b_3, rfl, hb_2, hb_3, S⟩
def stCol (s : List It) (x : It) : List It × Bool := (s ++ [x], true)
theorem push_col : ∀ (l s : List It), pushF stCol s l = (s ++ l, true)
  | [], s => by rw [List.append_nil]; rfl
  | x :: l, s => by rw [pushF_t rfl, push_col l]; simp [stCol]
theorem stCol_cnt (s : List It) (x : It) : (stCol s x).1.length ≤ s.length + 1 := by simp [stCol]
/-- how the boxes stand between two rounds -/
def HCol (l : Nat) (rL : Loop) (b2 base : Nat) (rows : List It) (b : Bool) (C : Nat → Prop) (W : World) : Prop :=
  ∃ v, (Lp l (recB rL 0 b) W ∧ Has W b2 [v] 26 ∧ Ows base W 29 2 v (rows.map It.cells)) ∧ (∀ k, ob v = some k → k ≠ l ∧ k ≠ b2) ∧ ∀ k, C k ↔ (k = l ∨ k = b2 ∨ ob v = some k)
theorem HCol.ft {l : Nat} {rL : Loop} {b2 base : Nat} {rows : List It} {b : Bool} {C : Nat → Prop} {W : World} {v : Value} (hC : ∀ k, C k ↔ (k = l ∨ k = b2 ∨ ob v = some k))
    (h1 : Lp l (recB rL 0 b) W) (h2 : Has W b2 [v] 26) (h5 : Ows base W 29 2 v (rows.map It.cells)) (hob : ∀ k, ob v = some k → k ≠ l ∧ k ≠ b2) :
    Ft C (HCol l rL b2 base rows b C) W := by
  refine ⟨fun k hk => ?_, fun u a => ⟨v, ⟨h1.step a (fun hn => hn ((hC _).2 (.inl rfl))), h2.step a (fun hn => hn ((hC _).2 (.inr (.inl rfl)))), h5.step a (fun k hk hn => hn ((hC k).2 (.inr (.inr hk))))⟩, hob, hC⟩⟩
  rcases (hC k).1 hk with rfl | rfl | h
  · exact h1.lt
  · exact h2.lt
  · exact (h5.ge k h).2
theorem c_appendSeq (A : Ar) (na fa : Option Addr) (nc fc : Nat) (r : Int) (hr : U64 r) (L : List It) (hTT : IsH A 10 r L) (hl : L.length ≤ 200) (bA bR : Nat) (w : World) (hA : ArR w na fa A) (hbA : Has w bA [.slice na A.nodes.length nc, .slice fa A.free.length fc] 34) (hbR : Has w bR [.int .u64 r] 36) :
    FC Try.prog 73 [.slice none 0 0, .func (.func 74) #[] #[.pointer (some ⟨bA, 0, none⟩), .pointer (some ⟨bR, 0, none⟩)]] w (fun v w' => Sub w w' ∧ ∃ a c, v = .slice a ((rowH A r).map It.cells).length c ∧ Ows w.heap.size w' 29 2 (.slice a ((rowH A r).map It.cells).length c) ((rowH A r).map It.cells)) := by
  refine FC.introM Try.func73 rfl Try.ntmps73 rfl ?_
  have S := Sub.refl w
  refine RC.seq ?_
  refine RC.region rfl ?_
  refine RL.box rfl rfl rfl (fun b_2 w_2 e_2 z_2 hb_2 s_2 => ?_)
  have ge_2 := S.le e_2
  have S := S.trans s_2
  refine RL.ev (.assign rfl) rfl rfl ?_
  refine RL.nil (RC.back ?_)
  refine RC.seq ?_
  refine RC.seq ?_
  refine RC.region rfl ?_
  refine RL.ev (.move rfl) rfl rfl ?_
  refine RL.nil (RC.back ?_)
  refine RC.range (cs := [_, _]) rfl ok74 ?_
  intro rL W1 hst hpe hps hasg hbd hk1 s1 z1 hL hD
  obtain ⟨b_D, eD⟩ : ∃ D, D = w_2.heap.size := ⟨_, rfl⟩
  rw [← eD] at hk1 z1 hL hD ⊢
  obtain ⟨b_l, el⟩ : ∃ l, l = b_D + 1 := ⟨_, rfl⟩
  rw [← el] at hk1 hL ⊢
  have n_D_l : b_D ≠ b_l := by omega
  have ge_D : _ ≤ b_D := Nat.le_trans S.size (by omega)
  have ge_l : _ ≤ b_l := Nat.le_trans S.size (by omega)
  have nb_2_b_D : b_2 ≠ b_D := fun e => by have := hb_2.lt; omega
  have nb_2_b_l : b_2 ≠ b_l := fun e => by have := hb_2.lt; omega
  have S := S.trans s1
  have hb_2 := hb_2.sub s1
  rw [recB_0 (id := 0) hst hpe] at hL
  have hY : YT Try.prog b_l It.val It.ok List.length 200 (HCol b_l rL b_2 w.heap.size) (stCol) := by
    intro s x C W hx hcn hH
    obtain ⟨v, ⟨hL, hb_2, o⟩, hob, hC⟩ := hH.now
    have szB : w.heap.size ≤ W.heap.size := (by have := hL.lt; omega)
    have G : Agr (fun k => k = b_l ∨ k = b_2 ∨ ob v = some k) W W := Agr.refl _ _
    refine FY.intro (m := 13) (F := upd _ (some 7) x.val) [0] hL rfl (by show 1 = rL.params.size; rw [hps]; rfl) (knows1 hps hk1 rfl) ?_
    show RC _ _ rL.assign _ _ _
    rw [hasg]
    refine RC.region rfl ?_
    refine RL.alloc ze29 rfl rfl (fun b_5 w_5 e_5 z_5 hb_5 s_5 => ?_)
    have n_l__5 := hL.ne e_5
    have n_2__5 := hb_2.ne e_5
    have d_o_b_5 := o.neNew e_5
    have hL := hL.sub s_5
    have hb_2 := hb_2.sub s_5
    have o := o.sub s_5
    have geG_5 := agLe G e_5
    have G := G.trans s_5.agr
    have szB := Nat.le_trans szB s_5.size
    refine RL.store sh29 rfl rfl rfl hb_5 (by exact Nat.le_of_ble_eq_true rfl) (by rfl) rfl (fun w1 z1 hb_5 a1 => ?_)
    have hL := hL.upd a1 n_l__5
    have hb_2 := hb_2.upd a1 n_2__5
    have o := o.updD a1 d_o_b_5
    have G := agNew G a1 geG_5
    have szB := Nat.le_trans szB a1.size
    have hb_5 : Has w1 b_5 (x.cells) _ := hb_5.now (by kernel_rfl)
    refine RL.nil (RC.begin hL ?_)
    intro w2 a2 z2 hL
    have hb_2 := hb_2.step a2 (fun e => nb_2_b_l e)
    have o := o.step a2 (fun k hk e => (fun k hk => (hob k hk).1) k hk e)
    have G := G.trans (a2.mono fun k _ e => .inl e)
    have szB := Nat.le_trans szB a2.size
    have hb_5 := hb_5.step a2 (fun e => n_l__5.symm e)
    show RC _ _ rL.body _ _ _
    rw [hbd]
    refine RC.block ?_
    refine RC.region rfl ?_
    refine RL.ev (.load1 sh26 rfl (hb_2.cell rfl)) rfl rfl ?_
    refine RL.ev (.loadR (x.cells) sh29 rfl hb_5.row rfl) rfl rfl ?_
    refine RL.buildSlice1 sl26 _ ze29 rfl rfl rfl rfl rfl rfl rfl (fun b_10 w_10 e_10 z_10 hb_10 s_10 => ?_)
    have n_2__10 := hb_2.ne e_10
    have n_5__10 := hb_5.ne e_10
    have n_l__10 := hL.ne e_10
    have d_o_b_10 := o.neNew e_10
    have hb_2 := hb_2.sub s_10
    have o := o.sub s_10
    have geG_10 := agLe G e_10
    have G := G.trans s_10.agr
    have szB := Nat.le_trans szB s_10.size
    have hb_5 := hb_5.sub s_10
    have hL := hL.sub s_10
    have ltb_2_11 := hb_2.lt
    have szG_11 := G.size
    have ltb_5_11 := hb_5.lt
    have ltb_l_11 := hL.lt
    have ltb_10_11 := hb_10.lt
    refine RL.append2 (base := w.heap.size) (rows := s.map It.cells) (news := [_]) sl26 ze29 rfl rfl rfl rfl (.inl o) (Has.slOne hb_10) rfl (by intro r hr; rw [List.mem_singleton] at hr; subst hr; rfl) rfl (by (try simp only [List.length_map, List.length_nil, List.length_append, List.length_cons]); omega) (by (try simp only [List.length_map, List.length_nil, List.length_append, List.length_cons]); omega) (by omega) rfl rfl (fun v_11 w_11 hc_11 ho_11 ag_11 ob_11 => ?_)
    have o11 := ho_11 (.inl (by simp))
    rw [show _ ++ [_] = ((s ++ [x]).map It.cells) from by rw [List.map_append]; rfl] at o11
    have d_o11_b_2 := obNe ob_11 (fun k hk => (hob k hk).2) hb_2.lt
    have d_o11_b_5 := obNe ob_11 d_o_b_5 hb_5.lt
    have d_o11_b_l := obNe ob_11 (fun k hk => (hob k hk).1) hL.lt
    have hb_2 := hb_2.step ag_11 (fun e => (fun k hk => (hob k hk).2) _ e.1 rfl)
    have G := G.trans (ag_11.mono fun k _ e => .inr (.inr e.1))
    have szB := Nat.le_trans szB ag_11.size
    have hb_5 := hb_5.step ag_11 (fun e => d_o_b_5 _ e.1 rfl)
    have hL := hL.step ag_11 (fun e => (fun k hk => (hob k hk).1) _ e.1 rfl)
    obtain ⟨a_11, c_11, rfl, k_11⟩ := o11.form
    refine RL.store sh26 rfl rfl rfl hb_2 (by exact Nat.le_of_ble_eq_true rfl) (by rfl) rfl (fun w3 z3 hb_2 a3 => ?_)
    have G := G.trans (a3.mono fun k _ e => .inr (.inl e))
    have szB := Nat.le_trans szB a3.size
    have hb_5 := hb_5.upd a3 n_2__5.symm
    have hL := hL.upd a3 nb_2_b_l.symm
    have o11 := o11.updD a3 d_o11_b_2
    refine RL.nil (RC.endr (j := none) hL ?_)
    intro w4 a4 z4 hL
    have hb_2 := hb_2.step a4 (fun e => nb_2_b_l e)
    have G := G.trans (a4.mono fun k _ e => .inl e)
    have szB := Nat.le_trans szB a4.size
    have hb_5 := hb_5.step a4 (fun e => n_l__5.symm e)
    have o11 := o11.step a4 (fun k hk e => d_o11_b_l k hk e)
    -- round end 1
    refine ⟨_, rfl, HCol.ft (fun _ => Iff.rfl) hL hb_2 o11 (fun k hk => ⟨d_o11_b_l k hk, d_o11_b_2 k hk⟩), G.mono fun k _ e => (hC k).2 e, fun k hk => ?_⟩
    rcases hk with e | e | e
    · exact .inl ((hC k).2 (.inl e))
    · exact .inl ((hC k).2 (.inr (.inl e)))
    · rcases ob_11 with h | ⟨c, h, h3⟩
      · exact .inl ((hC k).2 (.inr (.inr (h ▸ e))))
      · rw [h] at e; cases e; exact .inr (Nat.le_trans szG_11 h3)
  refine FC.mono (c_wleaves1 b_l _ _ _ _ stCol_cnt hY A na fa nc fc r hr L hTT [] (fun k => k = b_l ∨ k = b_2 ∨ ob (.slice none 0 0) = some k) (· < w.heap.size) bA bR W1 (by simpa using hl) ((Ft.of_sub fun u s => hA.sub s).sub S) (fun k hk e => by rcases e with e | e | e <;> first | (cases e; done) | omega) (HCol.ft (fun _ => Iff.rfl) hL hb_2 (Ows.nil _ _ _ _) (fun k e => by cases e)) ((hbA.sub S)) ((hbR.sub S))) ?_
  rintro _ W2 ⟨C2, hH, ag, up⟩
  rw [push_col] at hH
  obtain ⟨v, ⟨hL, hb_2, o⟩, hob, hC⟩ := hH.now
  have hDC : ¬ (b_D = b_l ∨ b_D = b_2 ∨ ob (.slice none 0 0) = some b_D) := (fun e => by rcases e with e | e | e <;> first | (cases e; done) | omega)
  have S := S.agrN ag (fun k e => by rcases e with e | e | e <;> first | (cases e; done) | omega)
  have hDn : ¬ C2 b_D := up.not hD.lt hDC
  have hD := hD.step ag hDC
  have hoD : ∀ k, ob v = some k → k ≠ b_D := fun k hk e => hDn (e ▸ (hC k).2 (.inr (.inr hk)))
  obtain ⟨a1, c1, rfl, _⟩ := o.form
  refine ⟨_, hL, recB_nb, fun W3 a3 z3 => .inl ⟨recB_pe, RC.backM ?_⟩⟩
  have S := S.agrN a3 (fun k e => e ▸ ge_l)
  have o := o.step a3 (fun k hk e => (fun k hk => (hob k hk).1) k hk e)
  have hb_2 := hb_2.step a3 (fun e => nb_2_b_l e)
  have hD := hD.step a3 (fun e => n_D_l e)
  refine RC.seq ?_
  refine RC.region rfl ?_
  refine RL.ev (.load1 sh26 rfl (hb_2.cell rfl)) rfl rfl ?_
  refine RL.ev (.assign rfl) rfl rfl ?_
  refine RL.nil (RC.back ?_)
  refine RC.doneM (rs := [.tmp 4]) (vs := [_]) rfl rfl (fun _ => ⟨rfl, trivial⟩) hD (fun w5 a5 z5 => ?_)
  have S := S.agrN a5 (fun k e => e ▸ ge_D)
  have o := o.step a5 (fun k hk e => hoD k hk e)
  have hb_2 := hb_2.step a5 (fun e => nb_2_b_D e)
  -- end 1
  exact ⟨S, a1, c1, rfl, o⟩
theorem c_collect (A : Ar) (na fa : Option Addr) (nc fc : Nat) (r : Int) (hr : U64 r) (L : List It) (hL : IsH A 10 r L) (hl : L.length ≤ 200) (bA bR : Nat) (w : World) (hA : ArR w na fa A) (hbA : Has w bA [.slice na A.nodes.length nc, .slice fa A.free.length fc] 34) (hbR : Has w bR [.int .u64 r] 36) :
    FC Try.prog 48 [.func (.func 74) #[] #[.pointer (some ⟨bA, 0, none⟩), .pointer (some ⟨bR, 0, none⟩)]] w (fun v w' => Sub w w' ∧ ∃ a c, v = .slice a ((rowH A r).map It.cells).length c ∧ Ows w.heap.size w' 29 2 (.slice a ((rowH A r).map It.cells).length c) ((rowH A r).map It.cells)) := by
  refine FC.intro Try.func48 rfl Try.ntmps48 rfl ?_
  have S := Sub.refl w
  refine RC.seq ?_
  refine RC.region rfl ?_
  refine RL.ev (.assign rfl) rfl rfl ?_
  refine RL.nil (RC.back ?_)
  refine RC.seq ?_
  refine RC.region rfl ?_
  refine RL.ev (.move rfl) rfl rfl ?_
  refine RL.call rfl ok73 (c_appendSeq A na fa nc fc r hr L hL hl bA bR w (hA.sub S) (hbA.sub S) (hbR.sub S)) rfl rfl ?_
  rintro _ w1 ⟨s2, a1, c1, rfl, o⟩
  have o := o.low S.size
  have S := S.trans s2
  refine RL.ev (.assign rfl) rfl rfl ?_
  refine RL.nil (RC.back ?_)
  refine RC.done (rs := [.tmp 2]) (vs := [_]) rfl rfl ⟨rfl, trivial⟩ ?_
  -- end 1
  exact ⟨S, a1, c1, rfl, o⟩
theorem c_wAll (A : Ar) (na fa : Option Addr) (nc fc : Nat) (hnc : A.nodes.length ≤ nc) (hfc : A.free.length ≤ fc) (r : Int) (hr : U64 r) (w : World) (hA : ArR w na fa A) :
    FC Try.prog 21 [arV na fa nc fc A, .int .u64 r] w (fun v w' => Sub w w' ∧ ∃ a c rows e, v = .tuple #[.slice a rows.length c, .int .i64 e] ∧ Sl w' a 2 (rows.map It.cells) ∧ (¬ isTab A r → rows = [] ∧ e = 1) ∧ (isTab A r → rows = rowH A r ∧ e = 0)) := by
  have hNd := hA.nodes
  have hFr := hA.free
  refine FC.intro Try.func21 rfl Try.ntmps21 rfl ?_
  have S := Sub.refl w
  refine RC.seq ?_
  refine RC.region rfl ?_
  refine RL.box rfl rfl rfl (fun b_2 w_2 e_2 z_2 hb_2 s_2 => ?_)
  have ge_2 := S.le e_2
  have S := S.trans s_2
  have hb_2 : Has w_2 b_2 ([.slice na A.nodes.length nc, .slice fa A.free.length fc]) _ := hb_2
  refine RL.ev (.assign rfl) rfl rfl ?_
  refine RL.ev (.assign rfl) rfl rfl ?_
  refine RL.nil (RC.back ?_)
  refine RC.seq ?_
  refine RC.seq ?_
  refine RC.region rfl ?_
  refine RL.ev (.loadR ([.slice na A.nodes.length nc, .slice fa A.free.length fc]) sh34 rfl hb_2.row rfl) rfl rfl ?_
  refine RL.ev (.move rfl) rfl rfl ?_
  refine RL.call rfl ok42 (c_hRight A na fa nc fc hnc hfc r hr w_2 (hA.sub S)) rfl rfl ?_
  rintro _ w1 ⟨rfl, s2⟩
  have S := S.trans s2
  have hb_2 := hb_2.sub s2
  refine RL.ev (.not rfl) rfl rfl ?_
  refine RL.nil (RC.back ?_)
  refine RC.cond rfl (fun h3 => ?_) (fun h3 => ?_)
  ·
    have hno : ¬ isTab A r := (fun h => by have h2 := h3; rw [isTabB_yes h] at h2; cases h2)
    refine RC.seq ?_
    refine RC.region rfl ?_
    refine RL.ev (.assign rfl) rfl rfl ?_
    refine RL.ev (.assign rfl) rfl rfl ?_
    refine RL.nil (RC.back ?_)
    refine RC.done (rs := [.tmp 4, .tmp 5]) (vs := [_, _]) rfl rfl ⟨rfl, rfl, trivial⟩ ?_
    -- end 1
    exact ⟨S, none, 0, [], 1, rfl, Sl.nil _ _ _, fun _ => ⟨rfl, rfl⟩, fun h => absurd h hno⟩
  ·
    have hyes : isTab A r := (isTabB_iff A r).1 (by simpa using h3)
    obtain ⟨_, L, hT, hap, hl⟩ := id hyes
    refine RC.skip (RC.back ?_)
    refine RC.seq ?_
    refine RC.region rfl ?_
    refine RL.ev (.loadR ([.slice na A.nodes.length nc, .slice fa A.free.length fc]) sh34 rfl hb_2.row rfl) rfl rfl ?_
    refine RL.ev (.move rfl) rfl rfl ?_
    refine RL.call rfl ok49 (c_wleaves A na fa nc fc r w1) rfl rfl ?_
    rintro _ w4 ⟨bA, bR, rfl, hbA, hbR, s5⟩
    have S := S.trans s5
    have hb_2 := hb_2.sub s5
    refine RL.call rfl ok48 (c_collect A na fa nc fc r hr L hT hl bA bR w4 (hA.sub S) hbA hbR) rfl rfl ?_
    rintro _ w6 ⟨s7, a1, c1, rfl, o⟩
    have S := S.trans s7
    have hb_2 := hb_2.sub s7
    refine RL.ev (.assign rfl) rfl rfl ?_
    refine RL.ev (.assign rfl) rfl rfl ?_
    refine RL.nil (RC.back ?_)
    refine RC.done (rs := [.tmp 4, .tmp 5]) (vs := [_, _]) rfl rfl ⟨rfl, rfl, trivial⟩ ?_
    -- end 2
    exact ⟨S, a1, c1, rowH A r, 0, by rw [List.length_map]; rfl, o.sl.1, fun h => absurd hyes h, fun _ => ⟨rfl, rfl⟩⟩
end Go.Proofs.Ytbfjobmebkhblaa
set_option linter.unusedVariables false
set_option linter.unusedSimpArgs false
namespace Go.Proofs.Ytbfjobmebkhblaa
open Go Go.XL
section
variable {P : Program} {n : Cx} {F : List (Nat × Value)} {w : World} {p : Post}
/-- the end of a function that holds ranges, whose results lie in cells -/
theorem retMC {fn : Func} {D : Nat} {R : Value → World → Prop} {rs : List ResultVar} {vs : List Value} (hrs : fn.results = rs.toArray) (hp : p.ret = (Post.fnM P fn R).ret) (hD : Df D w) (hv : ∀ w', Agr (· = D) w w' → w'.heap.size = w.heap.size → resVs P F w' rs vs ∧ R (tup vs) w') (hM : n.marks = [markD D] := by rfl) : ∀ a, Knows n F a → p.ret a w := fun a k => by
  rw [hp]
  refine ⟨.inr ⟨D, k.defers.trans hM, hD⟩, ?_⟩
  rintro w' (⟨_, h⟩ | ⟨D', h, e⟩)
  · rw [k.defers.trans hM] at h; cases h
  · rw [k.defers.trans hM] at h
    obtain rfl : D = D' := by
      have := (List.cons.inj h).1
      simp only [markD, Deferred.mk.injEq, Target.collected.injEq] at this
      exact this.1
    subst e
    have h2 := hv (w.putObj D (.deferred none)) agr_put (by simp)
    exact ⟨_, run_results k hrs h2.1, h2.2⟩
theorem RC.doneMC {fn : Func} {D : Nat} {R : Value → World → Prop} {rs : List ResultVar} {vs : List Value} (hrs : fn.results = rs.toArray) (hp : p.ret = (Post.fnM P fn R).ret) (hD : Df D w) (hv : ∀ w', Agr (· = D) w w' → w'.heap.size = w.heap.size → resVs P F w' rs vs ∧ R (tup vs) w') (hM : n.marks = [markD D] := by rfl) : RC P n .ret F w p := RC.ret (retMC hrs hp hD hv hM)
end
/-- how the record stands, where the body may return: b = the loop goes on -/
def recT (r : Loop) (b : Bool) : Loop := { r with state := if b then .ready else .done, pending := if b then none else some .ret }
theorem recT_nb {r : Loop} {b : Bool} : (recT r b).state ≠ .busy := by cases b <;> simp [recT]
theorem recT_pe {r : Loop} {id : Nat} : (recT r true).pending = none ∨ (recT r true).pending = some (.exit id) := .inl rfl
def stFst (p : It → Bool) (s : Option It) (x : It) : Option It × Bool := if p x = true then (some x, false) else (s, true)
theorem push_fst (p : It → Bool) : ∀ l : List It, pushF (stFst p) none l = (l.find? p, (l.find? p).isNone)
  | [] => rfl
  | x :: l => by
    by_cases h : p x = true
    · rw [pushF_f (by rw [stFst, if_pos h]), List.find?_cons_of_pos h, stFst, if_pos h]; rfl
    · rw [pushF_t (by rw [stFst, if_neg h]), List.find?_cons_of_neg h, stFst, if_neg h, push_fst p l]
theorem stFst_cnt (p : It → Bool) (s : Option It) (x : It) : (fun _ : Option It => 0) (stFst p s x).1 ≤ (fun _ : Option It => 0) s + 1 := Nat.zero_le _
def itOf (s : Option It) : It := s.getD ⟨0, 0⟩
/-- how the boxes stand between two rounds -/
def HFst (l : Nat) (rL : Loop) (b5 b6 b7 : Nat) (g : FuncId) (cs : List Value) (MK : Nat → Prop) (K : World → Prop) (s : Option It) (b : Bool) (C : Nat → Prop) (W : World) : Prop :=
  (Lp l (recT rL b) W ∧ Has W b5 [.func (.func g) #[] cs.toArray] 83 ∧ Has W b6 (itOf s).cells 29 ∧ Has W b7 [.int .i64 0] 39 ∧ Ft MK K W) ∧ ∀ k, C k ↔ (k = l ∨ k = b6 ∨ k = b7) ∨ (k = b5 ∨ MK k)
theorem HFst.ft {l : Nat} {rL : Loop} {b5 b6 b7 : Nat} {g : FuncId} {cs : List Value} {MK : Nat → Prop} {K : World → Prop} {s : Option It} {b : Bool} {C : Nat → Prop} {W : World} (hC : ∀ k, C k ↔ (k = l ∨ k = b6 ∨ k = b7) ∨ (k = b5 ∨ MK k))
    (h1 : Lp l (recT rL b) W) (h5 : Has W b5 [.func (.func g) #[] cs.toArray] 83) (h6 : Has W b6 (itOf s).cells 29) (h7 : Has W b7 [.int .i64 0] 39) (hK : Ft MK K W) :
    Ft C (HFst l rL b5 b6 b7 g cs MK K s b C) W := by
  refine ⟨fun k hk => ?_, fun u a => ⟨⟨h1.step a (fun hn => hn ((hC _).2 (.inl (.inl rfl)))), h5.step a (fun hn => hn ((hC _).2 (.inr (.inl rfl)))), h6.step a (fun hn => hn ((hC _).2 (.inl (.inr (.inl rfl))))), h7.step a (fun hn => hn ((hC _).2 (.inl (.inr (.inr rfl))))), hK.step a (fun k hk hn => hn ((hC _).2 (.inr (.inr hk))))⟩, hC⟩⟩
  rcases (hC k).1 hk with (rfl | rfl | rfl) | (rfl | h)
  · exact h1.lt
  · exact h6.lt
  · exact h7.lt
  · exact h5.lt
  · exact hK.lt k h
theorem agrPin {C D MK : Nat → Prop} {K : World → Prop} {w w' : World} (a : Agr C w w') (hC : ∀ k, C k → D k ∨ MK k) (hpin : ∀ u u', K u → K u' → ∀ k, MK k → u'.heap[k]? = u.heap[k]?) (h : K w) (h' : K w') : Agr D w w' :=
  ⟨a.os, a.tape, a.output, a.size, fun k hk hn => by
    by_cases hm : MK k
    · exact hpin _ _ h h' k hm
    · exact a.block k hk (fun hc => (hC k hc).elim hn hm)⟩
theorem c_wfirst (A : Ar) (na fa : Option Addr) (nc fc : Nat) (hnc : A.nodes.length ≤ nc) (hfc : A.free.length ≤ fc) (r : Int) (hr : U64 r) (g : FuncId) (hg : calleeOK Try.prog g = true) (cs : List Value) (p : It → Bool) (M MK : Nat → Prop) (K : World → Prop) (w : World) (hA : Ft M (fun u => ArR u na fa A) w) (hK : Ft MK K w) (hMK : ∀ k, M k → ¬ MK k) (hpin : ∀ u u', K u → K u' → ∀ k, MK k → u'.heap[k]? = u.heap[k]?)
    (hp : ∀ (x : It) (u : World), x.ok → K u → FC Try.prog g ([x.val] ++ cs) u (Val (.bool (p x)) u)) :
    FC Try.prog 46 [arV na fa nc fc A, .int .u64 r, .func (.func g) #[] cs.toArray] w (fun v w' => Sub w w' ∧ ∃ x e, v = .tuple #[x.val, .int .i64 e] ∧ (¬ isTab A r → x = ⟨0, 0⟩ ∧ e = 1) ∧ (isTab A r → (∃ y, (rowH A r).find? p = some y ∧ x = y ∧ e = 0) ∨ ((rowH A r).find? p = none ∧ x = ⟨0, 0⟩ ∧ e = 3))) := by
  have hNd := hA.now.nodes
  have hFr := hA.now.free
  refine FC.introM Try.func46 rfl Try.ntmps46 rfl ?_
  have S := Sub.refl w
  refine RC.seq ?_
  refine RC.region rfl ?_
  refine RL.box rfl rfl rfl (fun b_3 w_3 e_3 z_3 hb_3 s_3 => ?_)
  have ge_3 := S.le e_3
  have d_hK_b_3 := hK.neNew e_3
  have d_hA_b_3 := hA.neNew e_3
  have S := S.trans s_3
  have hK := hK.sub s_3
  have hA := hA.sub s_3
  have hb_3 : Has w_3 b_3 ([.slice na A.nodes.length nc, .slice fa A.free.length fc]) _ := hb_3
  refine RL.box rfl rfl rfl (fun b_5 w_5 e_5 z_5 hb_5 s_5 => ?_)
  have ge_5 := S.le e_5
  have n_3__5 := hb_3.ne e_5
  have d_hK_b_5 := hK.neNew e_5
  have d_hA_b_5 := hA.neNew e_5
  have S := S.trans s_5
  have hK := hK.sub s_5
  have hA := hA.sub s_5
  have hb_3 := hb_3.sub s_5
  refine RL.alloc ze29 rfl rfl (fun b_6 w_6 e_6 z_6 hb_6 s_6 => ?_)
  have ge_6 := S.le e_6
  have n_3__6 := hb_3.ne e_6
  have n_5__6 := hb_5.ne e_6
  have d_hK_b_6 := hK.neNew e_6
  have d_hA_b_6 := hA.neNew e_6
  have S := S.trans s_6
  have hK := hK.sub s_6
  have hA := hA.sub s_6
  have hb_3 := hb_3.sub s_6
  have hb_5 := hb_5.sub s_6
  refine RL.alloc ze39 rfl rfl (fun b_7 w_7 e_7 z_7 hb_7 s_7 => ?_)
  have ge_7 := S.le e_7
  have n_3__7 := hb_3.ne e_7
  have n_5__7 := hb_5.ne e_7
  have n_6__7 := hb_6.ne e_7
  have d_hK_b_7 := hK.neNew e_7
  have d_hA_b_7 := hA.neNew e_7
  have S := S.trans s_7
  have hK := hK.sub s_7
  have hA := hA.sub s_7
  have hb_3 := hb_3.sub s_7
  have hb_5 := hb_5.sub s_7
  have hb_6 := hb_6.sub s_7
  refine RL.nil (RC.back ?_)
  refine RC.seq ?_
  refine RC.seq ?_
  refine RC.region rfl ?_
  refine RL.ev (.loadR ([.slice na A.nodes.length nc, .slice fa A.free.length fc]) sh34 rfl hb_3.row rfl) rfl rfl ?_
  refine RL.ev (.move rfl) rfl rfl ?_
  refine RL.call rfl ok42 (c_hRight A na fa nc fc hnc hfc r hr w_7 hA.now) rfl rfl ?_
  rintro _ w1 ⟨rfl, s2⟩
  have S := S.trans s2
  have hK := hK.sub s2
  have hA := hA.sub s2
  have hb_3 := hb_3.sub s2
  have hb_5 := hb_5.sub s2
  have hb_6 := hb_6.sub s2
  have hb_7 := hb_7.sub s2
  refine RL.ev (.not rfl) rfl rfl ?_
  refine RL.nil (RC.back ?_)
  refine RC.cond rfl (fun h3 => ?_) (fun h3 => ?_)
  ·
    have hno : ¬ isTab A r := (fun h => by have h2 := h3; rw [isTabB_yes h] at h2; cases h2)
    refine RC.seq ?_
    refine RC.region rfl ?_
    refine RL.ev (.buildS ze29 pl29 rfl rfl) rfl rfl ?_
    refine RL.store sh29 rfl rfl rfl hb_6 (by exact Nat.le_of_ble_eq_true rfl) (by rfl) rfl (fun w4 z4 hb_6 a4 => ?_)
    have S := S.upd a4 ge_6
    have hK := hK.updD a4 d_hK_b_6
    have hA := hA.updD a4 d_hA_b_6
    have hb_3 := hb_3.upd a4 n_3__6
    have hb_5 := hb_5.upd a4 n_5__6
    have hb_7 := hb_7.upd a4 n_6__7.symm
    have hb_6 : Has w4 b_6 ((⟨0, 0⟩ : It).cells) _ := hb_6.now (by kernel_rfl)
    refine RL.store sh39 rfl rfl rfl hb_7 (by exact Nat.le_of_ble_eq_true rfl) (by rfl) rfl (fun w5 z5 hb_7 a5 => ?_)
    have S := S.upd a5 ge_7
    have hK := hK.updD a5 d_hK_b_7
    have hA := hA.updD a5 d_hA_b_7
    have hb_3 := hb_3.upd a5 n_3__7
    have hb_5 := hb_5.upd a5 n_5__7
    have hb_6 := hb_6.upd a5 n_6__7
    refine RL.nil (RC.back ?_)
    refine RC.doneM0 (rs := [.cell 6 29, .cell 7 39]) (vs := [_, _]) rfl rfl ⟨⟨_, rfl, .inr ⟨(⟨0, 0⟩ : It).cells, sh29, hb_6.row, rfl⟩⟩, ⟨_, rfl, .inl ⟨_, sh39, (hb_7.cell rfl)⟩⟩, trivial⟩ ?_
    -- end 1
    exact ⟨S, ⟨0, 0⟩, 1, rfl, fun _ => ⟨rfl, rfl⟩, fun h => absurd h hno⟩
  ·
    have hyes : isTab A r := (isTabB_iff A r).1 (by simpa using h3)
    obtain ⟨_, L, hT, hap, hl⟩ := id hyes
    refine RC.skip (RC.back ?_)
    refine RC.seq ?_
    refine RC.seq ?_
    refine RC.region rfl ?_
    refine RL.ev (.loadR ([.slice na A.nodes.length nc, .slice fa A.free.length fc]) sh34 rfl hb_3.row rfl) rfl rfl ?_
    refine RL.ev (.move rfl) rfl rfl ?_
    refine RL.call rfl ok49 (c_wleaves A na fa nc fc r w1) rfl rfl ?_
    rintro _ w6 ⟨bA, bR, rfl, hbA, hbR, s7⟩
    have S := S.trans s7
    have hK := hK.sub s7
    have hA := hA.sub s7
    have hb_3 := hb_3.sub s7
    have hb_5 := hb_5.sub s7
    have hb_6 := hb_6.sub s7
    have hb_7 := hb_7.sub s7
    obtain ⟨E, hE⟩ : ∃ E, E = w6.heap.size := ⟨_, rfl⟩
    refine RL.nil (RC.back ?_)
    refine RC.range (cs := [_, _]) rfl ok74 ?_
    intro rL W1 hst hpe hps hasg hbd hk1 s1 z1 hL hD
    obtain ⟨b_D, eD⟩ : ∃ D, D = w6.heap.size := ⟨_, rfl⟩
    rw [← eD] at hk1 z1 hL hD ⊢
    obtain ⟨b_l, el⟩ : ∃ l, l = b_D + 1 := ⟨_, rfl⟩
    rw [← el] at hk1 hL ⊢
    have n_D_l : b_D ≠ b_l := by omega
    have ge_D : _ ≤ b_D := Nat.le_trans S.size (by omega)
    have ge_l : _ ≤ b_l := Nat.le_trans S.size (by omega)
    have d_hK_b_D : ∀ k, _ → k ≠ b_D := fun k hk e => by have := (hK.ge k hk).2; omega
    have d_hK_b_l : ∀ k, _ → k ≠ b_l := fun k hk e => by have := (hK.ge k hk).2; omega
    have d_hA_b_D : ∀ k, _ → k ≠ b_D := fun k hk e => by have := (hA.ge k hk).2; omega
    have d_hA_b_l : ∀ k, _ → k ≠ b_l := fun k hk e => by have := (hA.ge k hk).2; omega
    have nb_3_b_D : b_3 ≠ b_D := fun e => by have := hb_3.lt; omega
    have nb_3_b_l : b_3 ≠ b_l := fun e => by have := hb_3.lt; omega
    have nb_5_b_D : b_5 ≠ b_D := fun e => by have := hb_5.lt; omega
    have nb_5_b_l : b_5 ≠ b_l := fun e => by have := hb_5.lt; omega
    have nb_6_b_D : b_6 ≠ b_D := fun e => by have := hb_6.lt; omega
    have nb_6_b_l : b_6 ≠ b_l := fun e => by have := hb_6.lt; omega
    have nb_7_b_D : b_7 ≠ b_D := fun e => by have := hb_7.lt; omega
    have nb_7_b_l : b_7 ≠ b_l := fun e => by have := hb_7.lt; omega
    have nbA_b_D : bA ≠ b_D := fun e => by have := hbA.lt; omega
    have nbA_b_l : bA ≠ b_l := fun e => by have := hbA.lt; omega
    have nbR_b_D : bR ≠ b_D := fun e => by have := hbR.lt; omega
    have nbR_b_l : bR ≠ b_l := fun e => by have := hbR.lt; omega
    have S := S.trans s1
    have hK := hK.sub s1
    have hA := hA.sub s1
    have hb_3 := hb_3.sub s1
    have hb_5 := hb_5.sub s1
    have hb_6 := hb_6.sub s1
    have hb_7 := hb_7.sub s1
    have hbA := hbA.sub s1
    have hbR := hbR.sub s1
    rw [recB_0 (id := 0) hst hpe] at hL
    have hY : YT Try.prog b_l It.val It.ok (fun _ => 0) 200 (HFst b_l rL b_5 b_6 b_7 g cs MK K) (stFst p) := by
      intro s x C W hx hcn hH
      obtain ⟨⟨hL, hb_5, hb_6, hb_7, hK⟩, hC⟩ := hH.now
      have G : Agr (fun k => k = b_l ∨ k = b_6 ∨ k = b_7) W W := Agr.refl _ _
      refine FY.intro (m := 23) (F := upd _ (some 17) x.val) [0] hL rfl (by show 1 = rL.params.size; rw [hps]; rfl) (knows1 hps hk1 rfl) ?_
      show RC _ _ rL.assign _ _ _
      rw [hasg]
      refine RC.region rfl ?_
      refine RL.alloc ze29 rfl rfl (fun b_8 w_8 e_8 z_8 hb_8 s_8 => ?_)
      have n_l__8 := hL.ne e_8
      have n_5__8 := hb_5.ne e_8
      have n_6__8 := hb_6.ne e_8
      have n_7__8 := hb_7.ne e_8
      have d_hK_b_8 := hK.neNew e_8
      have hL := hL.sub s_8
      have hb_5 := hb_5.sub s_8
      have hb_6 := hb_6.sub s_8
      have hb_7 := hb_7.sub s_8
      have hK := hK.sub s_8
      have geG_8 := agLe G e_8
      have G := G.trans s_8.agr
      refine RL.store sh29 rfl rfl rfl hb_8 (by exact Nat.le_of_ble_eq_true rfl) (by rfl) rfl (fun w8 z8 hb_8 a8 => ?_)
      have hL := hL.upd a8 n_l__8
      have hb_5 := hb_5.upd a8 n_5__8
      have hb_6 := hb_6.upd a8 n_6__8
      have hb_7 := hb_7.upd a8 n_7__8
      have hK := hK.updD a8 d_hK_b_8
      have G := agNew G a8 geG_8
      have hb_8 : Has w8 b_8 (x.cells) _ := hb_8.now (by kernel_rfl)
      refine RL.nil (RC.begin hL ?_)
      intro w9 a9 z9 hL
      have hb_5 := hb_5.step a9 (fun e => nb_5_b_l e)
      have hb_6 := hb_6.step a9 (fun e => nb_6_b_l e)
      have hb_7 := hb_7.step a9 (fun e => nb_7_b_l e)
      have hK := hK.step a9 (fun k hk e => d_hK_b_l k hk e)
      have G := G.trans (a9.mono fun k _ e => .inl e)
      have hb_8 := hb_8.step a9 (fun e => n_l__8.symm e)
      show RC _ _ rL.body _ _ _
      rw [hbd]
      refine RC.block ?_
      refine RC.seq ?_
      refine RC.region rfl ?_
      refine RL.ev (.load1 sh83 rfl (hb_5.cell rfl)) rfl rfl ?_
      refine RL.ev (.loadR (x.cells) sh29 rfl hb_8.row rfl) rfl rfl ?_
      refine RL.callv rfl rfl (us := []) (cs := cs) hg (hp x w9 hx hK.now) rfl rfl ?_
      rintro _ w10 ⟨rfl, s11⟩
      have hb_5 := hb_5.sub s11
      have hb_6 := hb_6.sub s11
      have hb_7 := hb_7.sub s11
      have hK := hK.sub s11
      have G := G.trans s11.agr
      have hb_8 := hb_8.sub s11
      have hL := hL.sub s11
      refine RL.nil (RC.back ?_)
      refine RC.cond rfl (fun h12 => ?_) (fun h12 => ?_)
      ·
        have q1 := h12
        refine RC.seq ?_
        refine RC.region rfl ?_
        refine RL.ev (.loadR (x.cells) sh29 rfl hb_8.row rfl) rfl rfl ?_
        refine RL.store sh29 rfl rfl rfl hb_6 (by exact Nat.le_of_ble_eq_true rfl) (by rfl) rfl (fun w13 z13 hb_6 a13 => ?_)
        have hb_5 := hb_5.upd a13 n_5__6
        have hb_7 := hb_7.upd a13 n_6__7.symm
        have hK := hK.updD a13 d_hK_b_6
        have G := G.trans (a13.mono fun k _ e => .inr (.inl e))
        have hb_8 := hb_8.upd a13 n_6__8.symm
        have hL := hL.upd a13 nb_6_b_l.symm
        have hb_6 : Has w13 b_6 (x.cells) _ := hb_6.now (by kernel_rfl)
        refine RL.store sh39 rfl rfl rfl hb_7 (by exact Nat.le_of_ble_eq_true rfl) (by rfl) rfl (fun w14 z14 hb_7 a14 => ?_)
        have hb_5 := hb_5.upd a14 n_5__7
        have hb_6 := hb_6.upd a14 n_6__7
        have hK := hK.updD a14 d_hK_b_7
        have G := G.trans (a14.mono fun k _ e => .inr (.inr (e)))
        have hb_8 := hb_8.upd a14 n_7__8.symm
        have hL := hL.upd a14 nb_7_b_l.symm
        have hb_7 : Has w14 b_7 ([.int .i64 0]) _ := hb_7
        refine RL.nil (RC.back ?_)
        refine RC.ret (RC.endr (j := some .ret) hL ?_)
        intro w15 a15 z15 hL
        have hb_5 := hb_5.step a15 (fun e => nb_5_b_l e)
        have hb_6 := hb_6.step a15 (fun e => nb_6_b_l e)
        have hb_7 := hb_7.step a15 (fun e => nb_7_b_l e)
        have hK := hK.step a15 (fun k hk e => d_hK_b_l k hk e)
        have G := G.trans (a15.mono fun k _ e => .inl e)
        have hb_8 := hb_8.step a15 (fun e => n_l__8.symm e)
        -- round end 1
        rw [show stFst p s x = (some x, false) from if_pos q1]
        exact ⟨C, rfl, HFst.ft hC hL hb_5 hb_6 hb_7 hK, G.mono fun k _ e => (hC k).2 (.inl e), Up.refl _ _⟩
      ·
        have q1 := h12
        refine RC.skip (RC.endr (j := none) hL ?_)
        intro w16 a16 z16 hL
        have hb_5 := hb_5.step a16 (fun e => nb_5_b_l e)
        have hb_6 := hb_6.step a16 (fun e => nb_6_b_l e)
        have hb_7 := hb_7.step a16 (fun e => nb_7_b_l e)
        have hK := hK.step a16 (fun k hk e => d_hK_b_l k hk e)
        have G := G.trans (a16.mono fun k _ e => .inl e)
        have hb_8 := hb_8.step a16 (fun e => n_l__8.symm e)
        -- round end 2
        rw [show stFst p s x = (s, true) from by rw [stFst, if_neg (by simp [q1])]]
        exact ⟨C, rfl, HFst.ft hC hL hb_5 hb_6 hb_7 hK, G.mono fun k _ e => (hC k).2 (.inl e), Up.refl _ _⟩
    refine FC.mono (c_wleaves1 b_l _ _ _ _ (stFst_cnt p) hY A na fa nc fc r hr L hT none (fun k => (k = b_l ∨ k = b_6 ∨ k = b_7) ∨ (k = b_5 ∨ MK k)) M bA bR W1 (by show 0 + L.length ≤ 200; omega) hA (fun k hk e => by rcases e with (e | e | e) | (e | e); exact d_hA_b_l k hk e; exact d_hA_b_6 k hk e; exact d_hA_b_7 k hk e; exact d_hA_b_5 k hk e; exact hMK k hk e) (HFst.ft (fun _ => Iff.rfl) hL hb_5 hb_6 hb_7 hK) hbA hbR) ?_
    rintro _ W2 ⟨C2, hH, ag, up⟩
    have hK0 := hK.now
    rw [push_fst] at hH
    obtain ⟨⟨hL, hb_5, hb_6, hb_7, hK⟩, hC⟩ := hH.now
    have ag := agrPin (D := fun k => k = b_l ∨ k = b_6 ∨ k = b_7 ∨ k = b_5) ag (fun k e => by rcases e with (e | e | e) | (e | e); exact .inl (.inl e); exact .inl (.inr (.inl e)); exact .inl (.inr (.inr (.inl e))); exact .inl (.inr (.inr (.inr e))); exact .inr e) hpin hK0 hK.now
    have hDC : ¬ (b_D = b_l ∨ b_D = b_6 ∨ b_D = b_7 ∨ b_D = b_5) := (fun e => by rcases e with e | e | e | e <;> omega)
    have S := S.agrN ag (fun k e => by rcases e with e | e | e | e <;> omega)
    have hD := hD.step ag hDC
    obtain ⟨bb, hbb⟩ : ∃ bb, ((rowH A r).find? p).isNone = bb := ⟨_, rfl⟩
    rw [hbb] at hL 
    cases bb
    ·
      obtain ⟨y, hy⟩ : ∃ y, (rowH A r).find? p = some y := (by cases q : (rowH A r).find? p with | none => rw [q] at hbb; cases hbb | some y => exact ⟨y, rfl⟩)
      rw [hy] at hb_6
      have hb_6 : Has W2 b_6 y.cells 29 := hb_6
      refine ⟨_, hL, recT_nb, fun W3 a3 z3 => .inr ⟨rfl, ?_⟩⟩
      have S := S.agrN a3 (fun k e => e ▸ ge_l)
      have hb_6 := hb_6.step a3 (fun e => nb_6_b_l e)
      have hb_7 := hb_7.step a3 (fun e => nb_7_b_l e)
      have hD := hD.step a3 (fun e => n_D_l e)
      refine retMC (rs := [.cell 6 29, .cell 7 39]) (vs := [y.val, .int .i64 0]) rfl rfl hD (fun w17 a17 z17 => ?_)
      have S := S.agrN a17 (fun k e => e ▸ ge_D)
      have hb_6 := hb_6.step a17 (fun e => nb_6_b_D e)
      have hb_7 := hb_7.step a17 (fun e => nb_7_b_D e)
      refine ⟨⟨⟨_, rfl, .inr ⟨y.cells, sh29, hb_6.row, rfl⟩⟩, ⟨_, rfl, .inl ⟨_, sh39, (hb_7.cell rfl)⟩⟩, trivial⟩, ?_⟩
      -- end 2
      exact ⟨S, y, 0, rfl, fun h => absurd hyes h, fun _ => .inl ⟨y, hy, rfl, rfl⟩⟩
    ·
      have hn : (rowH A r).find? p = none := (by cases q : (rowH A r).find? p with | none => rfl | some y => rw [q] at hbb; cases hbb)
      refine ⟨_, hL, recT_nb, fun W3 a3 z3 => .inl ⟨recT_pe, RC.backM ?_⟩⟩
      have S := S.agrN a3 (fun k e => e ▸ ge_l)
      have hb_6 := hb_6.step a3 (fun e => nb_6_b_l e)
      have hb_7 := hb_7.step a3 (fun e => nb_7_b_l e)
      have hD := hD.step a3 (fun e => n_D_l e)
      refine RC.seq ?_
      refine RC.region rfl ?_
      refine RL.ev (.buildS ze29 pl29 rfl rfl) rfl rfl ?_
      refine RL.store sh29 rfl rfl rfl hb_6 (by exact Nat.le_of_ble_eq_true rfl) (by rfl) rfl (fun w18 z18 hb_6 a18 => ?_)
      have S := S.upd a18 ge_6
      have hb_7 := hb_7.upd a18 n_6__7.symm
      have hD := hD.upd a18 nb_6_b_D.symm
      have hb_6 : Has w18 b_6 ((⟨0, 0⟩ : It).cells) _ := hb_6.now (by kernel_rfl)
      refine RL.store sh39 rfl rfl rfl hb_7 (by exact Nat.le_of_ble_eq_true rfl) (by rfl) rfl (fun w19 z19 hb_7 a19 => ?_)
      have S := S.upd a19 ge_7
      have hb_6 := hb_6.upd a19 n_6__7
      have hD := hD.upd a19 nb_7_b_D.symm
      refine RL.nil (RC.back ?_)
      refine RC.doneMC (rs := [.cell 6 29, .cell 7 39]) (vs := [(⟨0, 0⟩ : It).val, .int .i64 3]) rfl rfl hD (fun w20 a20 z20 => ?_)
      have S := S.agrN a20 (fun k e => e ▸ ge_D)
      have hb_6 := hb_6.step a20 (fun e => nb_6_b_D e)
      have hb_7 := hb_7.step a20 (fun e => nb_7_b_D e)
      refine ⟨⟨⟨_, rfl, .inr ⟨(⟨0, 0⟩ : It).cells, sh29, hb_6.row, rfl⟩⟩, ⟨_, rfl, .inl ⟨_, sh39, (hb_7.cell rfl)⟩⟩, trivial⟩, ?_⟩
      -- end 3
      exact ⟨S, ⟨0, 0⟩, 3, rfl, fun h => absurd hyes h, fun _ => .inr ⟨hn, rfl, rfl⟩⟩
end Go.Proofs.Ytbfjobmebkhblaa
set_option linter.unusedVariables false
set_option linter.unusedSimpArgs false
namespace Go.Proofs.Ytbfjobmebkhblaa
open Go Go.XL
/-- which key comes ahead, with so many levels left -/
def lessF (a b : Int) : Nat → Bool
  | 0 => decide (a < b)
  | n + 1 => if dig a (9 - n) = dig b (9 - n) then lessF a b n else decide (dig a (9 - n) < dig b (9 - n))
def lessK (a b : Int) : Bool := lessF a b 10
theorem lessF_irrefl (a : Int) : ∀ n, lessF a a n = false
  | 0 => decide_eq_false (by omega)
  | n + 1 => by rw [lessF, if_pos rfl]; exact lessF_irrefl a n
theorem lessF_trans {a b c : Int} : ∀ n, lessF a b n = true → lessF b c n = true → lessF a c n = true
  | 0, h1, h2 => by
    have h1 := of_decide_eq_true h1
    have h2 := of_decide_eq_true h2
    exact decide_eq_true (by omega)
  | n + 1, h1, h2 => by
    rw [lessF] at h1 h2 ⊢
    by_cases q1 : dig a (9 - n) = dig b (9 - n)
    · rw [if_pos q1] at h1
      by_cases q2 : dig b (9 - n) = dig c (9 - n)
      · rw [if_pos q2] at h2; rw [if_pos (q1.trans q2)]; exact lessF_trans n h1 h2
      · rw [if_neg q2] at h2; rw [if_neg (fun e => q2 (q1.symm.trans e)), q1]; exact h2
    · rw [if_neg q1] at h1
      have h1' := of_decide_eq_true h1
      by_cases q2 : dig b (9 - n) = dig c (9 - n)
      · rw [if_neg (fun e => q1 (e.trans q2.symm)), ← q2]; exact h1
      · rw [if_neg q2] at h2
        have h2' := of_decide_eq_true h2
        rw [if_neg (by omega)]
        exact decide_eq_true (by omega)
theorem lessK_irrefl (a : Int) : lessK a a = false := lessF_irrefl a 10
theorem lessK_trans {a b c : Int} (h1 : lessK a b = true) (h2 : lessK b c = true) : lessK a c = true := lessF_trans 10 h1 h2
/-- a row in that order -/
def Wl (l : List It) : Prop := l.Pairwise fun x y => lessK x.k y.k = true
theorem Wl.ap {l : List It} (h : Wl l) : Ap l := List.Pairwise.imp (fun h e => by rw [e, lessK_irrefl] at h; cases h) h
theorem wl_unique : ∀ {a b : List It}, Wl a → Wl b → a.Perm b → a = b
  | [], b, _, _, p => (List.Perm.nil_eq p)
  | x :: a, [], _, _, p => by cases p.length_eq
  | x :: a, y :: b, ha, hb, p => by
    obtain ⟨a1, a2⟩ := List.pairwise_cons.1 ha
    obtain ⟨b1, b2⟩ := List.pairwise_cons.1 hb
    have e : x = y := by
      have hx := p.mem_iff.1 (List.mem_cons_self (a := x) (l := a))
      have hy := p.mem_iff.2 (List.mem_cons_self (a := y) (l := b))
      rcases List.mem_cons.1 hx with e | hx
      · exact e
      · rcases List.mem_cons.1 hy with e | hy
        · exact e.symm
        · have h1 := lessK_trans (b1 x hx) (a1 y hy)
          rw [lessK_irrefl] at h1; cases h1
    subst e
    rw [wl_unique a2 b2 (List.Perm.cons_inv p)]
/-- keys of a table stand in that order -/
theorem row_wl {A : Ar} : ∀ {k : Nat} {r : Int} {L : List It}, IsH A k r L → k ≤ 10 → (rdF A (k + 2) r).Pairwise fun x y => lessF x.k y.k k = true
  | k, r, L, h, hk => by
    rcases row_cases L with rfl | ⟨x, rfl⟩ | h2
    · rw [isH_nil.1 h, rdF_no (getA_z A)]; exact List.Pairwise.nil
    · rw [rdF_leaf (isH_one.1 h)]; exact List.pairwise_singleton _ _
    · cases k with
      | zero =>
        obtain ⟨y, m, q1, q2, _, _, q5, _, q6, q7, q8⟩ := clash_node ((isH_clash h2).1 h) h2
        rw [rd_clash (f := 0) q1 q2 q6 q7 q8]
        exact List.Pairwise.imp (fun h => decide_eq_true h) q5
      | succ k =>
        obtain ⟨y, q1, q2, _, q4, q5⟩ := trie_zero h h2
        rw [show k + 1 + 2 = (k + 2) + 1 by omega, rdF_node q1 (by omega), kids4 q5 _ (rdF_no (getA_z A))]
        have hm : ∀ i, i < 4 → ∀ z ∈ rdF A (k + 2) (y.kids.getD i 0), dig z.k (9 - k) = i := fun i hi z hz => (ofL_mem.1 ((rd_perm (f := 0) (q4 i hi)).mem_iff.1 hz)).2
        have hs : ∀ i, i < 4 → (rdF A (k + 2) (y.kids.getD i 0)).Pairwise fun x y => lessF x.k y.k (k + 1) = true := fun i hi => by
          refine List.Pairwise.imp_of_mem ?_ (row_wl (q4 i hi) (by omega))
          intro a b ha hb hab
          rw [lessF, if_pos ((hm i hi a ha).trans (hm i hi b hb).symm)]; exact hab
        have hx : ∀ i j, i < j → j < 4 → ∀ a ∈ rdF A (k + 2) (y.kids.getD i 0), ∀ b ∈ rdF A (k + 2) (y.kids.getD j 0), lessF a.k b.k (k + 1) = true := fun i j hij hj a ha b hb => by
          rw [lessF, if_neg (by rw [hm i (by omega) a ha, hm j hj b hb]; omega), hm i (by omega) a ha, hm j hj b hb]
          exact decide_eq_true hij
        refine List.pairwise_append.2 ⟨hs 0 (by omega), List.pairwise_append.2 ⟨hs 1 (by omega), List.pairwise_append.2 ⟨hs 2 (by omega), hs 3 (by omega), hx 2 3 (by omega) (by omega)⟩, fun a ha b hb => ?_⟩, fun a ha b hb => ?_⟩
        · rcases List.mem_append.1 hb with hb | hb
          · exact hx 1 2 (by omega) (by omega) a ha b hb
          · exact hx 1 3 (by omega) (by omega) a ha b hb
        · rcases List.mem_append.1 hb with hb | hb
          · exact hx 0 1 (by omega) (by omega) a ha b hb
          · rcases List.mem_append.1 hb with hb | hb
            · exact hx 0 2 (by omega) (by omega) a ha b hb
            · exact hx 0 3 (by omega) (by omega) a ha b hb
theorem rowH_wl {A : Ar} {r : Int} {L : List It} (h : IsH A 10 r L) : Wl (rowH A r) := row_wl h (Nat.le_refl _)
theorem rem4 (n : Nat) : ((n : Nat) : Int).tmod 4 = ((n % 4 : Nat) : Int) := by rw [Int.tmod_eq_emod_of_nonneg (Int.natCast_nonneg _)]; rfl
theorem c_wLess (a b : Int) (w : World) : FC Try.prog 14 [.int .i64 a, .int .i64 b] w (Val (.bool (lessK a b)) w) := by
  have ha := hashOf_lt a
  have hb := hashOf_lt b
  refine FC.intro Try.func14 rfl Try.ntmps14 rfl ?_
  have S := Sub.refl w
  refine RC.seq ?_
  refine RC.region rfl ?_
  refine RL.ev (.assign rfl) rfl rfl ?_
  refine RL.nil (RC.back ?_)
  refine RC.seq ?_
  refine RC.region rfl ?_
  refine RL.ev (.move rfl) rfl rfl ?_
  refine RL.call rfl ok43 (c_hash a w) rfl rfl ?_
  rintro _ w1 ⟨rfl, s2⟩
  have S := S.trans s2
  refine RL.ev (.move rfl) rfl rfl ?_
  refine RL.call rfl ok43 (c_hash b w1) rfl rfl ?_
  rintro _ w3 ⟨rfl, s4⟩
  have S := S.trans s4
  refine RL.ev (.as (v' := .int .i64 ((hashOf a / 4 ^ 0 : Nat) : Int)) (.assign rfl) (by rw [Nat.pow_zero, Nat.div_one])) rfl rfl ?_
  refine RL.ev (.as (v' := .int .i64 ((hashOf b / 4 ^ 0 : Nat) : Int)) (.assign rfl) (by rw [Nat.pow_zero, Nat.div_one])) rfl rfl ?_
  refine RL.nil (RC.back ?_)
  refine RC.seq ?_
  refine RC.seq ?_
  refine RC.region rfl ?_
  refine RL.ev (.move rfl) rfl rfl ?_
  refine RL.nil (RC.back ?_)
  refine RC.block ?_
  refine RC.loop (α := Nat) (fun i => [(0, .int .i64 a), (1, .int .i64 b), (5, .int .i64 ((hashOf a / 4 ^ i : Nat) : Int)), (6, .int .i64 ((hashOf b / 4 ^ i : Nat) : Int)), (11, .int .i64 (i : Int))]) (fun i w5 => (i ≤ 10 ∧ lessK a b = lessF a b (10 - i)) ∧ Sub w w5) (fun i => 10 - i) 0 (keep_of (by repeat (first | exact trivial | refine And.intro rfl ?_))) (⟨⟨Nat.zero_le _, rfl⟩, S⟩) (fun i w5 hJ => ?_)
  obtain ⟨⟨hi, he⟩, S⟩ := hJ; have hpa : hashOf a / 4 ^ i ≤ hashOf a := Nat.div_le_self _ _; have hpb : hashOf b / 4 ^ i ≤ hashOf b := Nat.div_le_self _ _; have hqa : hashOf a / 4 ^ (i + 1) ≤ hashOf a := Nat.div_le_self _ _; have hqb : hashOf b / 4 ^ (i + 1) ≤ hashOf b := Nat.div_le_self _ _
  refine RC.seq ?_
  refine RC.region rfl ?_
  refine RL.ev (.bin rfl rfl rfl) rfl rfl ?_
  refine RL.nil (RC.back ?_)
  refine RC.seq ?_
  refine RC.cond_dec rfl (fun h6 => ?_) (fun h6 => ?_)
  ·
    have hs : 10 - i = (9 - i) + 1 := (by omega)
    have h9 : 9 - (9 - i) = i := (by omega)
    refine RC.skip (RC.back ?_)
    refine RC.seq ?_
    refine RC.block ?_
    refine RC.seq ?_
    refine RC.seq ?_
    refine RC.region rfl ?_
    refine RL.ev (.move rfl) rfl rfl ?_
    refine RL.ev (.as (v' := .int .i64 (dig a i : Nat)) (.rem rfl rfl (by decide)) (by rw [rem4]; rfl)) rfl rfl ?_
    refine RL.ev (.move rfl) rfl rfl ?_
    refine RL.ev (.as (v' := .int .i64 (dig b i : Nat)) (.rem rfl rfl (by decide)) (by rw [rem4]; rfl)) rfl rfl ?_
    refine RL.ev (.bin rfl rfl rfl) rfl rfl ?_
    refine RL.nil (RC.back ?_)
    refine RC.cond_dec rfl (fun h7 => ?_) (fun h7 => ?_)
    ·
      have q1 : ¬ dig a i = dig b i := (by have := h7; omega)
      refine RC.seq ?_
      refine RC.region rfl ?_
      refine RL.ev (.move rfl) rfl rfl ?_
      refine RL.ev (.as (v' := .int .i64 (dig a i : Nat)) (.rem rfl rfl (by decide)) (by rw [rem4]; rfl)) rfl rfl ?_
      refine RL.ev (.move rfl) rfl rfl ?_
      refine RL.ev (.as (v' := .int .i64 (dig b i : Nat)) (.rem rfl rfl (by decide)) (by rw [rem4]; rfl)) rfl rfl ?_
      refine RL.ev (.bin rfl rfl rfl) rfl rfl ?_
      refine RL.ev (.assign rfl) rfl rfl ?_
      refine RL.nil (RC.back ?_)
      refine RC.done (rs := [.tmp 4]) (vs := [_]) rfl rfl ⟨rfl, trivial⟩ ?_
      -- end 1
      exact ⟨congrArg Value.bool (by rw [he, hs, lessF, h9, if_neg q1]; exact decide_eq_decide.2 (by omega)), S⟩
    ·
      have q1 : dig a i = dig b i := (by have := h7; omega)
      refine RC.skip (RC.back ?_)
      refine RC.region rfl ?_
      refine RL.ev (.move rfl) rfl rfl ?_
      refine RL.ev (.as (v' := .int .i64 ((hashOf a / 4 ^ (i + 1) : Nat) : Int)) (.quo rfl rfl (by decide)) (by exact wi64 (div4 a i) ⟨Int.le_trans (by decide) (Int.natCast_nonneg _), Int.le_trans (Int.ofNat_le.2 hqa) (by omega)⟩)) rfl rfl ?_
      refine RL.ev (.move rfl) rfl rfl ?_
      refine RL.ev (.as (v' := .int .i64 ((hashOf b / 4 ^ (i + 1) : Nat) : Int)) (.quo rfl rfl (by decide)) (by exact wi64 (div4 b i) ⟨Int.le_trans (by decide) (Int.natCast_nonneg _), Int.le_trans (Int.ofNat_le.2 hqb) (by omega)⟩)) rfl rfl ?_
      refine RL.ev (.assign rfl) rfl rfl ?_
      refine RL.ev (.assign rfl) rfl rfl ?_
      refine RL.nil (RC.back ?_)
      refine RC.region rfl ?_
      refine RL.ev (.as (.bin rfl rfl rfl) (wi64 (y := ((i + 1 : Nat) : Int)) (by omega) (by omega))) rfl rfl ?_
      refine RL.ev (.move rfl) rfl rfl ?_
      exact RL.nil (fun a ka => ⟨i + 1, ⟨⟨by omega, by rw [he, hs, lessF, h9, if_pos q1]; congr 1; omega⟩, S⟩, by omega, ka.keep (keep_of (by repeat (first | exact trivial | refine And.intro rfl ?_)))⟩)
  ·
    obtain rfl : i = 10 := (by omega)
    refine RC.exit rfl (RC.back ?_)
    refine RC.seq ?_
    refine RC.region rfl ?_
    refine RL.ev (.move rfl) rfl rfl ?_
    refine RL.ev (.move rfl) rfl rfl ?_
    refine RL.ev (.bin rfl rfl rfl) rfl rfl ?_
    refine RL.ev (.assign rfl) rfl rfl ?_
    refine RL.nil (RC.back ?_)
    refine RC.done (rs := [.tmp 4]) (vs := [_]) rfl rfl ⟨rfl, trivial⟩ ?_
    -- end 2
    exact ⟨congrArg Value.bool (by rw [he]; rfl), S⟩
theorem wl_get {l : List It} (hw : Wl l) {i j : Nat} {x y : It} (hi : l[i]? = some x) (hj : l[j]? = some y) (h : i < j) : lessK x.k y.k = true := by
  have h1 := lt_of_get hi
  have h2 := lt_of_get hj
  have := List.pairwise_iff_getElem.1 hw i j h1 h2 h
  rw [List.getElem?_eq_getElem h1] at hi
  rw [List.getElem?_eq_getElem h2] at hj
  rwa [Option.some.inj hi, Option.some.inj hj] at this
end Go.Proofs.Ytbfjobmebkhblaa
set_option linter.unusedVariables false
set_option linter.unusedSimpArgs false
namespace Go.Proofs.Ytbfjobmebkhblaa
open Go Go.XL
/-- what First and Next tell -/
def FndP (A : Ar) (r : Int) (o : Option It) (x : It) (e : Int) : Prop := (¬ isTab A r → x = ⟨0, 0⟩ ∧ e = 1) ∧ (isTab A r → (∃ y, o = some y ∧ x = y ∧ e = 0) ∨ (o = none ∧ x = ⟨0, 0⟩ ∧ e = 3))
theorem c_wFirst1 (x : It) (w : World) : FC Try.prog 50 ([x.val] ++ []) w (Val (.bool true) w) := by
  refine FC.intro Try.func50 rfl Try.ntmps50 rfl ?_
  have S := Sub.refl w
  refine RC.seq ?_
  refine RC.region rfl ?_
  refine RL.box rfl rfl rfl (fun b_1 w_1 e_1 z_1 hb_1 s_1 => ?_)
  have ge_1 := S.le e_1
  have S := S.trans s_1
  have hb_1 : Has w_1 b_1 (x.cells) _ := hb_1
  refine RL.ev (.assign rfl) rfl rfl ?_
  refine RL.nil (RC.back ?_)
  refine RC.seq ?_
  refine RC.region rfl ?_
  refine RL.ev (.assign rfl) rfl rfl ?_
  refine RL.nil (RC.back ?_)
  refine RC.done (rs := [.tmp 2]) (vs := [_]) rfl rfl ⟨rfl, trivial⟩ ?_
  -- end 1
  exact ⟨rfl, S⟩
theorem c_wFirst (A : Ar) (na fa : Option Addr) (nc fc : Nat) (hnc : A.nodes.length ≤ nc) (hfc : A.free.length ≤ fc) (r : Int) (hr : U64 r) (w : World) (hA : ArR w na fa A) :
    FC Try.prog 24 [arV na fa nc fc A, .int .u64 r] w (fun v w' => Sub w w' ∧ ∃ x e, v = .tuple #[x.val, .int .i64 e] ∧ FndP A r (rowH A r).head? x e) := by
  have hNd := hA.nodes
  have hFr := hA.free
  have hG : Ft (· < w.heap.size) (fun u => ArR u na fa A) w := Ft.of_sub fun u s => hA.sub s
  have hh : (rowH A r).find? (fun _ => true) = (rowH A r).head? := by cases rowH A r <;> rfl
  refine FC.intro Try.func24 rfl Try.ntmps24 rfl ?_
  have S := Sub.refl w
  refine RC.seq ?_
  refine RC.region rfl ?_
  refine RL.box rfl rfl rfl (fun b_2 w_2 e_2 z_2 hb_2 s_2 => ?_)
  have ge_2 := S.le e_2
  have S := S.trans s_2
  have hb_2 : Has w_2 b_2 ([.slice na A.nodes.length nc, .slice fa A.free.length fc]) _ := hb_2
  refine RL.alloc ze29 rfl rfl (fun b_4 w_4 e_4 z_4 hb_4 s_4 => ?_)
  have ge_4 := S.le e_4
  have n_2__4 := hb_2.ne e_4
  have S := S.trans s_4
  have hb_2 := hb_2.sub s_4
  refine RL.ev (.assign rfl) rfl rfl ?_
  refine RL.nil (RC.back ?_)
  refine RC.seq ?_
  refine RC.region rfl ?_
  refine RL.ev (.loadR ([.slice na A.nodes.length nc, .slice fa A.free.length fc]) sh34 rfl hb_2.row rfl) rfl rfl ?_
  refine RL.ev (.move rfl) rfl rfl ?_
  refine RL.call rfl ok46 (c_wfirst A na fa nc fc hnc hfc r hr 50 ok50 [] (fun x => true) (· < w.heap.size) (fun _ => False) (fun u => True) w_4 (hG.sub S) ⟨fun _ h => h.elim, fun _ _ => trivial⟩ (fun k hk e => e) (fun u u' _ _ k hk => hk.elim) (fun x u _ _ => c_wFirst1 x u)) rfl rfl ?_
  rintro _ w1 ⟨s2, x, e, rfl, hf1, hf2⟩
  have S := S.trans s2
  have hb_2 := hb_2.sub s2
  have hb_4 := hb_4.sub s2
  refine RL.ev (.extract rfl rfl) rfl rfl ?_
  refine RL.ev (.extract rfl rfl) rfl rfl ?_
  refine RL.store sh29 rfl rfl rfl hb_4 (by exact Nat.le_of_ble_eq_true rfl) (by rfl) rfl (fun w3 z3 hb_4 a3 => ?_)
  have S := S.upd a3 ge_4
  have hb_2 := hb_2.upd a3 n_2__4
  have hb_4 : Has w3 b_4 (x.cells) _ := hb_4.now (by kernel_rfl)
  refine RL.ev (.assign rfl) rfl rfl ?_
  refine RL.nil (RC.back ?_)
  refine RC.done (rs := [.cell 4 29, .tmp 5]) (vs := [_, _]) rfl rfl ⟨⟨_, rfl, .inr ⟨x.cells, sh29, hb_4.row, rfl⟩⟩, rfl, trivial⟩ ?_
  -- end 1
  rw [hh] at hf2
  exact ⟨S, x, e, rfl, hf1, hf2⟩
def one57 : List It := [⟨5, 7⟩]
theorem one57_ap : Ap one57 := List.pairwise_singleton _ _
theorem one57_fit : ∀ x ∈ one57, shL x.k one57 ≤ 9 := fun x _ => Nat.le_trans (shL_le _ _) (by decide)
theorem one57_ok : ∀ z ∈ one57, z.ok := fun z hz => by rw [List.mem_singleton.1 hz]; exact ⟨by unfold I64; decide, by unfold I64; decide⟩
theorem c_alive10 (w : World) : FC Try.prog 15 [] w (Val (.bool true) w) := by
  have hc : cnt 10 one57 = 1 := cnt_few (by decide)
  refine FC.intro Try.func15 rfl Try.ntmps15 rfl ?_
  have S := Sub.refl w
  refine RC.seq ?_
  refine RC.region rfl ?_
  refine RL.ev (.assign rfl) rfl rfl ?_
  refine RL.nil (RC.back ?_)
  refine RC.seq ?_
  refine RC.region rfl ?_
  refine RL.ev (.buildS ze29 pl29 rfl rfl) rfl rfl ?_
  refine RL.buildSlice1 sl26 _ ze29 rfl rfl rfl rfl rfl rfl rfl (fun b_7 w_7 e_7 z_7 hb_7 s_7 => ?_)
  have ge_7 := S.le e_7
  have S := S.trans s_7
  refine RL.call rfl ok18 (c_build9 9 one57 (some ⟨b_7, 0, none⟩) 1 1 rfl one57_ap one57_fit one57_ok (by omega) (by decide) (by decide) (by decide) w_7 (Has.sl0 (rows := one57.map It.cells) hb_7 it_rows)) rfl rfl ?_
  rintro _ w1 ⟨B, r, na, fa, nc, fc, rfl, hB, hnc, hfc, hi, s2⟩
  have hA := (hi (fun _ => False) (fun _ h => h.elim)).now
  have S := S.trans s2
  have hb_7 := hb_7.sub s2
  obtain ⟨W1, S1, hA⟩ : ∃ W, Sub W w1 ∧ ArR W na fa B := ⟨_, Sub.refl _, hA⟩
  have hT := hB.isH (by decide)
  have htab := tab_of (hB.ok (by decide) (by decide)) hT one57_ap (by decide)
  have hrow : rowH B r = one57 := List.perm_singleton.1 (rowH_perm hT)
  refine RL.ev (.move rfl) rfl rfl ?_
  refine RL.ev (.extract rfl rfl) rfl rfl ?_
  refine RL.ev (.extract rfl rfl) rfl rfl ?_
  refine RL.alloc ze34 rfl rfl (fun b_1 w_1 e_1 z_1 hb_1 s_1 => ?_)
  have ge_1 := S.le e_1
  have n_7__1 := hb_7.ne e_1
  have S := S.trans s_1
  have hb_7 := hb_7.sub s_1
  have geS1_1 := S1.le e_1
  have S1 := S1.trans s_1
  refine RL.store sh34 rfl rfl rfl hb_1 (by exact Nat.le_of_ble_eq_true rfl) (by rfl) rfl (fun w3 z3 hb_1 a3 => ?_)
  have S := S.upd a3 ge_1
  have hb_7 := hb_7.upd a3 n_7__1
  have S1 := S1.upd a3 geS1_1
  have hb_1 : Has w3 b_1 ([.slice na B.nodes.length nc, .slice fa B.free.length fc]) _ := hb_1.now (by kernel_rfl)
  refine RL.ev (.assign rfl) rfl rfl ?_
  refine RL.nil (RC.back ?_)
  refine RC.seq ?_
  refine RC.region rfl ?_
  refine RL.ev (.loadR ([.slice na B.nodes.length nc, .slice fa B.free.length fc]) sh34 rfl hb_1.row rfl) rfl rfl ?_
  refine RL.ev (.move rfl) rfl rfl ?_
  refine RL.call rfl ok24 (c_wFirst B na fa nc fc hnc hfc r hB.u w3 (hA.sub S1)) rfl rfl ?_
  rintro _ w4 ⟨s5, x, e, rfl, hf⟩
  have S := S.trans s5
  have hb_7 := hb_7.sub s5
  have S1 := S1.trans s5
  have hb_1 := hb_1.sub s5
  obtain ⟨y, hy, hxy, he⟩ := (hf.2 htab).resolve_right (fun h => by rw [hrow] at h; cases h.1)
  have hx : x = ⟨5, 7⟩ := (by rw [hxy]; rw [hrow] at hy; exact (Option.some.inj hy).symm)
  subst hx
  refine RL.ev (.move rfl) rfl rfl ?_
  refine RL.ev (.extract rfl rfl) rfl rfl ?_
  refine RL.ev (.extract rfl rfl) rfl rfl ?_
  refine RL.alloc ze29 rfl rfl (fun b_3 w_3 e_3 z_3 hb_3 s_3 => ?_)
  have ge_3 := S.le e_3
  have n_7__3 := hb_7.ne e_3
  have n_1__3 := hb_1.ne e_3
  have S := S.trans s_3
  have hb_7 := hb_7.sub s_3
  have geS1_3 := S1.le e_3
  have S1 := S1.trans s_3
  have hb_1 := hb_1.sub s_3
  refine RL.store sh29 rfl rfl rfl hb_3 (by exact Nat.le_of_ble_eq_true rfl) (by rfl) rfl (fun w6 z6 hb_3 a6 => ?_)
  have S := S.upd a6 ge_3
  have hb_7 := hb_7.upd a6 n_7__3
  have S1 := S1.upd a6 geS1_3
  have hb_1 := hb_1.upd a6 n_1__3
  have hb_3 : Has w6 b_3 ((⟨5, 7⟩ : It).cells) _ := hb_3.now (by kernel_rfl)
  refine RL.ev (.assign rfl) rfl rfl ?_
  refine RL.nil (RC.back ?_)
  refine RC.seq ?_
  refine RC.region rfl ?_
  refine RL.ev (.move rfl) rfl rfl ?_
  refine RL.ev (.as (v' := .bool true) (.bin rfl rfl rfl) (congrArg Value.bool (decide_eq_true (he)))) rfl rfl ?_
  refine RL.ev (.move rfl) rfl rfl ?_
  refine RL.ev (.loadR ((⟨5, 7⟩ : It).cells) sh29 rfl hb_3.row rfl) rfl rfl ?_
  refine RL.ev (.buildS ze29 pl29 rfl rfl) rfl rfl ?_
  refine RL.ev (.as (v' := .bool true) (.eqS (xs := (⟨5, 7⟩ : It).cells) (ys := (⟨5, 7⟩ : It).cells) fk29 eg29 sh29 rfl rfl rfl rfl rfl) (congrArg Value.bool (rfl))) rfl rfl ?_
  refine RL.ev (.pick_t rfl rfl) rfl rfl ?_
  refine RL.ev (.assign rfl) rfl rfl ?_
  refine RL.nil (RC.back ?_)
  refine RC.done (rs := [.tmp 0]) (vs := [_]) rfl rfl ⟨rfl, trivial⟩ ?_
  -- end 1
  exact ⟨rfl, S⟩
end Go.Proofs.Ytbfjobmebkhblaa
set_option linter.unusedVariables false
set_option linter.unusedSimpArgs false
namespace Go.Proofs.Ytbfjobmebkhblaa
open Go Go.XL
theorem eqL_it_iff (x y : It) : eqL x.cells y.cells = decide (x = y) := by
  obtain ⟨a, b⟩ := x
  obtain ⟨c, d⟩ := y
  simp [eqL, eq1, It.cells]
  rfl
theorem take_ext {l m : List It} {i : Nat} {x y : It} (hx : l[i]? = some x) (hy : m[i]? = some y) (h : l.take i = m.take i) (e : x = y) : l.take (i + 1) = m.take (i + 1) := by
  rw [List.take_add_one, List.take_add_one, hx, hy, h, e]
theorem c_same (l m : List It) (a b : Option Addr) (c d n k : Nat) (hn : n = l.length) (hk : k = m.length) (w : World) (hl : Sl w a 2 (l.map It.cells)) (hm : Sl w b 2 (m.map It.cells)) (hb : l.length ≤ 1000000) :
    FC Try.prog 22 [.slice a n c, .slice b k d] w (Val (.bool (decide (l = m))) w) := by
  subst hn hk
  refine FC.intro Try.func22 rfl Try.ntmps22 rfl ?_
  have S := Sub.refl w
  refine RC.seq ?_
  refine RC.region rfl ?_
  refine RL.ev (.assign rfl) rfl rfl ?_
  refine RL.nil (RC.back ?_)
  refine RC.seq ?_
  refine RC.seq ?_
  refine RC.region rfl ?_
  refine RL.ev (.move rfl) rfl rfl ?_
  refine RL.ev (.len sl26 rfl) rfl rfl ?_
  refine RL.ev (.move rfl) rfl rfl ?_
  refine RL.ev (.len sl26 rfl) rfl rfl ?_
  refine RL.ev (.bin rfl rfl rfl) rfl rfl ?_
  refine RL.nil (RC.back ?_)
  refine RC.cond_dec rfl (fun h1 => ?_) (fun h1 => ?_)
  ·
    have hne : ¬ l = m := (fun e => by subst e; exact absurd rfl h1)
    refine RC.seq ?_
    refine RC.region rfl ?_
    refine RL.ev (.assign rfl) rfl rfl ?_
    refine RL.nil (RC.back ?_)
    refine RC.done (rs := [.tmp 4]) (vs := [_]) rfl rfl ⟨rfl, trivial⟩ ?_
    -- end 1
    rw [decide_eq_false hne]
    exact ⟨rfl, S⟩
  ·
    have hlen : l.length = m.length := (by have := h1; omega)
    refine RC.skip (RC.back ?_)
    refine RC.seq ?_
    refine RC.seq ?_
    refine RC.region rfl ?_
    refine RL.ev (.move rfl) rfl rfl ?_
    refine RL.ev (.len sl26 rfl) rfl rfl ?_
    refine RL.ev (.move rfl) rfl rfl ?_
    refine RL.nil (RC.back ?_)
    refine RC.block ?_
    refine RC.loop (α := Nat) (fun i => [(0, .slice a l.length c), (1, .slice b m.length d), (12, .int .i64 (l.length : Int)), (13, .int .i64 (i : Int))]) (fun i w2 => (i ≤ l.length ∧ l.take i = m.take i) ∧ Sub w w2) (fun i => l.length - i) 0 (keep_of (by repeat (first | exact trivial | refine And.intro rfl ?_))) (⟨⟨Nat.zero_le _, by simp⟩, S⟩) (fun i w2 hJ => ?_)
    obtain ⟨⟨hi, hp⟩, S⟩ := hJ
    refine RC.seq ?_
    refine RC.region rfl ?_
    refine RL.ev (.bin rfl rfl rfl) rfl rfl ?_
    refine RL.nil (RC.back ?_)
    refine RC.seq ?_
    refine RC.cond_dec rfl (fun h3 => ?_) (fun h3 => ?_)
    ·
      obtain ⟨x, hx⟩ := getSome (l := l) (i := i) (by omega)
      obtain ⟨y, hy⟩ := getSome (l := m) (i := i) (by omega)
      refine RC.skip (RC.back ?_)
      refine RC.seq ?_
      refine RC.block ?_
      refine RC.seq ?_
      refine RC.region rfl ?_
      refine RL.ev (.move rfl) rfl rfl ?_
      refine RL.ev (.assign rfl) rfl rfl ?_
      refine RL.nil (RC.back ?_)
      refine RC.seq ?_
      refine RC.draw rfl mxo (by kernel_rfl) ?_
      refine RQ.ev (.move rfl) rfl rfl ?_
      refine RQ.ev (.move rfl) rfl rfl ?_
      refine RQ.ev (.indexS sl26 rfl rfl (by omega) (hl.is (i := 0) (by simp only [List.length_map, List.length_cons, List.length_nil]; omega))) rfl rfl ?_
      refine RQ.ev (.loadR (x.cells) sh29 rfl ((hl.sub S).rowAt (enc := It.cells) (i := i) hx) rfl) rfl rfl ?_
      refine RQ.ev (.move rfl) rfl rfl ?_
      refine RQ.ev (.move rfl) rfl rfl ?_
      refine RQ.ev (.indexS sl26 rfl rfl (by omega) (hm.is (i := 0) (by simp only [List.length_map, List.length_cons, List.length_nil]; omega))) rfl rfl ?_
      refine RQ.ev (.loadR (y.cells) sh29 rfl ((hm.sub S).rowAt (enc := It.cells) (i := i) hy) rfl) rfl rfl ?_
      refine RQ.ev (.neS (xs := x.cells) (ys := y.cells) fk29 eg29 sh29 rfl rfl rfl rfl rfl) rfl rfl ?_
      refine RQ.nil (fun w4 s5 => RC.back ?_)
      have S := S.trans s5
      refine RC.cond rfl (fun h6 => ?_) (fun h6 => ?_)
      ·
        have hxy : ¬ x = y := (fun e => by have h2 := h6; rw [eqL_it_iff, decide_eq_true e] at h2; cases h2)
        have hne : ¬ l = m := (fun e => by subst e; rw [hx] at hy; cases hy; exact hxy rfl)
        refine RC.seq ?_
        refine RC.region rfl ?_
        refine RL.ev (.assign rfl) rfl rfl ?_
        refine RL.nil (RC.back ?_)
        refine RC.done (rs := [.tmp 4]) (vs := [_]) rfl rfl ⟨rfl, trivial⟩ ?_
        -- end 2
        rw [decide_eq_false hne]
        exact ⟨rfl, S⟩
      ·
        have hxy : x = y := (by have h2 := h6; rw [eqL_it_iff] at h2; simpa using h2)
        refine RC.skip (RC.back ?_)
        refine RC.region rfl ?_
        refine RL.ev (.as (.bin rfl rfl rfl) (wi64 (y := ((i + 1 : Nat) : Int)) (by omega) (by omega))) rfl rfl ?_
        refine RL.ev (.move rfl) rfl rfl ?_
        exact RL.nil (fun a ka => ⟨i + 1, ⟨⟨by omega, take_ext hx hy hp hxy⟩, S⟩, by omega, ka.keep (keep_of (by repeat (first | exact trivial | refine And.intro rfl ?_)))⟩)
    ·
      obtain rfl : i = l.length := (by omega)
      rw [List.take_length, hlen, List.take_length] at hp
      refine RC.exit rfl (RC.back ?_)
      refine RC.seq ?_
      refine RC.region rfl ?_
      refine RL.ev (.assign rfl) rfl rfl ?_
      refine RL.nil (RC.back ?_)
      refine RC.done (rs := [.tmp 4]) (vs := [_]) rfl rfl ⟨rfl, trivial⟩ ?_
      -- end 3
      rw [decide_eq_true hp]
      exact ⟨rfl, S⟩
end Go.Proofs.Ytbfjobmebkhblaa
set_option linter.unusedVariables false
set_option linter.unusedSimpArgs false
namespace Go.Proofs.Ytbfjobmebkhblaa
open Go Go.XL
theorem hash60 : ((List.range 60).map fun (n : Nat) => hashOf (n : Int)).Nodup := by decide +kernel
theorem hash60_inj {a b : Int} (ha : 0 ≤ a ∧ a < 60) (hb : 0 ≤ b ∧ b < 60) (h : hashOf a = hashOf b) : a = b := by
  obtain ⟨m, rfl⟩ : ∃ m : Nat, a = m := ⟨a.toNat, by omega⟩
  obtain ⟨n, rfl⟩ : ∃ n : Nat, b = n := ⟨b.toNat, by omega⟩
  have h60 := hash60
  rw [List.nodup_iff_pairwise_ne, List.pairwise_map] at h60
  rw [List.pairwise_iff_getElem] at h60
  rcases Nat.lt_trichotomy m n with q | q | q
  · have := h60 m n (by simp; omega) (by simp; omega) q
    simp only [List.getElem_range] at this
    exact absurd h this
  · rw [q]
  · have := h60 n m (by simp; omega) (by simp; omega) q
    simp only [List.getElem_range] at this
    exact absurd h.symm this
def Low (L : List It) : Prop := ∀ x ∈ L, 0 ≤ x.k ∧ x.k < 60
theorem Low.perm {L M : List It} (h : Low L) (p : L.Perm M) : Low M := fun x hx => h x (p.mem_iff.2 hx)
theorem Low.put {L : List It} (h : Low L) {key v : Int} (hk : 0 ≤ key ∧ key < 60) : Low (putM L key v) := fun x hx => by
  rcases List.mem_cons.1 hx with rfl | hx
  · exact hk
  · exact h x (delL_mem.1 hx).1
theorem Low.del {L : List It} (h : Low L) {key : Int} : Low (delL L key) := fun x hx => h x (delL_mem.1 hx).1
theorem few_same : ∀ {L : List It}, Ap L → (∀ x ∈ L, ∀ y ∈ L, x.k = y.k) → L.length ≤ 1
  | [], _, _ => Nat.zero_le _
  | [x], _, _ => Nat.le_refl _
  | x :: y :: L, h, e => absurd (e x (by simp) y (by simp)) ((List.pairwise_cons.1 h).1 y (by simp))
theorem shL_low {L : List It} (hap : Ap L) (hlow : Low L) (k : Int) : shL k L ≤ 1 := by
  unfold shL
  refine few_same (hap.filter _) fun x hx y hy => ?_
  obtain ⟨h1, h2⟩ := List.mem_filter.1 hx
  obtain ⟨h3, h4⟩ := List.mem_filter.1 hy
  exact hash60_inj (hlow x h1) (hlow y h3) (by simp at h2 h4; rw [h2, h4])
theorem sub_len : ∀ (L ks : List Int), L.Nodup → (∀ x ∈ L, x ∈ ks) → L.length ≤ ks.length
  | [], ks, _, _ => Nat.zero_le _
  | x :: L, ks, h, hs => by
    obtain ⟨h1, h2⟩ := List.nodup_cons.1 h
    have hx := hs x (by simp)
    have := sub_len L (ks.erase x) h2 fun y hy => (List.mem_erase_of_ne (fun (e : y = x) => h1 (e ▸ hy))).2 (hs y (by simp [hy]))
    rw [List.length_erase_of_mem hx] at this
    have hp := List.length_pos_of_mem hx
    rw [List.length_cons]; omega
theorem Ap.keys {L : List It} (h : Ap L) : (L.map fun x => x.k).Nodup := by
  rw [List.nodup_iff_pairwise_ne, List.pairwise_map]; exact h
def zeroI (k : Int) : It := ⟨k, 0⟩
theorem ofL_keys (lv i : Nat) (ks : List Int) : ofL lv i (ks.map zeroI) = (ks.filter fun k => decide (dig k lv = i)).map zeroI := by
  unfold ofL; rw [List.filter_map]; rfl
theorem cnt_pos {k : Nat} {L : List It} (h : 1 ≤ L.length) : 1 ≤ cnt k L := by
  rcases row_cases L with rfl | ⟨x, rfl⟩ | h2
  · simp at h
  · rw [cnt_few (by simp)]; exact Nat.le_refl _
  · cases k with
    | zero => rw [cnt_0 h2]; omega
    | succ k => rw [cnt_s h2]; omega
theorem cnt_bound : ∀ (k : Nat) (L : List It) (ks : List Int), Ap L → (∀ x ∈ L, x.k ∈ ks) → cnt k L ≤ cnt k (ks.map zeroI)
  | k, L, ks, hap, hs => by
    have hlen : L.length ≤ ks.length := by
      have := sub_len (L.map fun x => x.k) ks hap.keys (fun y hy => by obtain ⟨x, hx, rfl⟩ := List.mem_map.1 hy; exact hs x hx)
      rwa [List.length_map] at this
    rcases row_cases L with rfl | ⟨x, rfl⟩ | h2
    · rw [cnt_nil]; exact Nat.zero_le _
    · rw [cnt_few (by simp)]; exact cnt_pos (by rw [List.length_map]; exact hlen)
    · have h2' : 2 ≤ (ks.map zeroI).length := by rw [List.length_map]; omega
      cases k with
      | zero => rw [cnt_0 h2, cnt_0 h2', List.length_map]; omega
      | succ k =>
        have q : ∀ i, cnt k (ofL (9 - k) i L) ≤ cnt k (ofL (9 - k) i (ks.map zeroI)) := fun i => by
          rw [ofL_keys]
          exact cnt_bound k _ _ (hap.of _ _) fun x hx => List.mem_filter.2 ⟨hs x (ofL_mem.1 hx).1, by simpa using (ofL_mem.1 hx).2⟩
        have q0 := q 0
        have q1 := q 1
        have q2 := q 2
        have q3 := q 3
        rw [cnt_s h2, cnt_s h2']; omega
theorem cnt60 : cnt 10 (((List.range 60).map fun (n : Nat) => (n : Int)).map zeroI) ≤ 100 := by decide +kernel
theorem cnt_low {L : List It} (hap : Ap L) (hlow : Low L) : cnt 10 L ≤ 100 :=
  Nat.le_trans (cnt_bound 10 L _ hap fun x hx => List.mem_map.2 ⟨x.k.toNat, List.mem_range.2 (by have := hlow x hx; omega), by have := hlow x hx; omega⟩) cnt60
theorem low_len {L : List It} (hap : Ap L) (hlow : Low L) : L.length ≤ 60 := by
  have := sub_len (L.map fun x => x.k) ((List.range 60).map fun (n : Nat) => (n : Int)) hap.keys (fun y hy => by
    obtain ⟨x, hx, rfl⟩ := List.mem_map.1 hy
    exact List.mem_map.2 ⟨x.k.toNat, List.mem_range.2 (by have := hlow x hx; omega), by have := hlow x hx; omega⟩)
  simpa using this
theorem low_bad {L : List It} (hap : Ap L) (hlow : Low L) {key : Int} (hk : 0 ≤ key ∧ key < 60) : ¬ BadH L key := by
  have := shL_low hap hlow key
  have := low_len hap hlow
  exact fun h => h.elim (by omega) (fun h => h.elim (by omega) (fun h => h.2.elim (by omega) (by omega)))
theorem PutPH.low {A B : Ar} {r key v r' e : Int} {L : List It} (h : PutPH A r key v B r' e) (hA : AOk A) (hL : IsH A 10 r L) (hap : Ap L) (hlow : Low L) (hk : 0 ≤ key ∧ key < 60) (hf : 100 ≤ A.free.length ∨ 12 * (L.length + 1) ≤ A.free.length) :
    e = 0 ∧ Ext A B ∧ AOk B ∧ A.free.length ≤ B.free.length + 100 ∧ IsH B 10 r' (putM L key v) := by
  have hc := cnt_low (hap.put (key := key) (v := v)) (hlow.put hk)
  have hc2 := cnt_le 10 (putM L key v)
  have hpl := putM_len (key := key) (v := v) hap
  have hll := low_len hap hlow
  rcases (put_twoH h (tab_of hA hL hap (by omega)) hL hap).2 (low_bad hap hlow hk) with h | ⟨h1, h2, h3, h4, h5⟩
  · omega
  · exact ⟨h1, h2, h3, by omega, h5⟩
theorem DelPH.low {A B : Ar} {r key r' e : Int} {L : List It} (h : DelPH A r key B r' e) (hA : AOk A) (hL : IsH A 10 r L) (hap : Ap L) (hlow : Low L) (hf : 100 ≤ A.free.length ∨ 12 * L.length ≤ A.free.length) :
    (hasK L key = false ∧ e = 3) ∨ (hasK L key = true ∧ e = 0 ∧ Ext A B ∧ AOk B ∧ A.free.length ≤ B.free.length + 100 ∧ IsH B 10 r' (delL L key)) := by
  have hc := cnt_low (hap.del (key := key)) hlow.del
  have hc2 := cnt_le 10 (delL L key)
  have hdl : (delL L key).length ≤ L.length := List.length_filter_le _ _
  have hll := low_len hap hlow
  have := del_twoH h (tab_of hA hL hap (by omega)) hL hap
  cases hh : hasK L key with
  | false => exact .inl ⟨rfl, (this.1 hh).1⟩
  | true =>
    rcases this.2 hh with h | ⟨h1, h2, h3, h4, h5⟩
    · omega
    · exact .inr ⟨rfl, h1, h2, h3, by omega, h5⟩
end Go.Proofs.Ytbfjobmebkhblaa
set_option linter.unusedVariables false
set_option linter.unusedSimpArgs false
namespace Go.Proofs.Ytbfjobmebkhblaa
open Go Go.XL
def idW (i : Int) : Int := i
/-- keys of one hash are few: how far that was gone over -/
def FewTo (R : List It) (j : Nat) : Prop := ∀ i x, i < j → R[i]? = some x → shL x.k R ≤ 9
theorem FewTo.all {R : List It} (h : FewTo R R.length) : ∀ x ∈ R, shL x.k R ≤ 9 := fun x hx => by
  obtain ⟨i, hi⟩ := List.getElem?_of_mem hx
  exact h i x (lt_of_get hi) hi
end Go.Proofs.Ytbfjobmebkhblaa
set_option linter.unusedVariables false
set_option linter.unusedSimpArgs false
namespace Go.Proofs.Ytbfjobmebkhblaa
open Go Go.XL
theorem i64_m1 : I64 (-1) := by unfold I64; omega
def m60W (x : Int) : Int := x % 60
theorem del_take {Y : List It} {j : Nat} {y : It} {kk : Int} (h : Y[j]? = some y) : delL (Y.take (j + 1)) kk = delL (Y.take j) kk ++ (if y.k = kk then [] else [y]) := by
  unfold delL
  rw [List.take_add_one, h, List.filter_append]
  congr 1
  by_cases q : y.k = kk
  · rw [if_pos q]; show List.filter _ [y] = []; rw [List.filter_cons, if_neg (by simpa using q)]; rfl
  · rw [if_neg q]; show List.filter _ [y] = [y]; rw [List.filter_cons, if_pos (by simpa using q)]; rfl
theorem wl_del {Y : List It} (h : Wl Y) (kk : Int) : Wl (delL Y kk) := List.Pairwise.filter _ h
set_option maxHeartbeats 1000000 in
theorem law_WalkPuts (w : World) (l : List Int) (pa : Option Addr) (pc : Nat) (hlc : l.length ≤ pc) (hcm : pc ≤ maxLen) (hs : Sl w pa 1 (l.map fun x => [i6 x])) (hli : ∀ x ∈ l, I64 x) (key : Int) (wk : (Lit.int .i64 key).wf = true) :
    FC Try.prog 5 [.slice pa l.length pc, .int .i64 key] w (Val (.bool true) w) := by
  have hk := wfI wk
  have hll : l.length ≤ 9223372036854775807 := Nat.le_trans hlc (Nat.le_trans hcm (by decide))
  have nmk := norm_mod key 60 (by decide)
  obtain ⟨kk, hkk⟩ : ∃ kk, kk = key % 60 := ⟨_, rfl⟩
  have hkr : 0 ≤ kk ∧ kk < 60 := by omega
  have hki : I64 kk := by unfold I64; omega
  refine FC.intro Try.func5 rfl Try.ntmps5 rfl ?_
  have S := Sub.refl w
  refine RC.seq ?_
  refine RC.region rfl ?_
  refine RL.ev (.assign rfl) rfl rfl ?_
  refine RL.nil (RC.back ?_)
  refine RC.seq ?_
  refine RC.region rfl ?_
  refine RL.ev (.assign rfl) rfl rfl ?_
  refine RL.nil (RC.back ?_)
  refine RC.seq ?_
  refine RC.seq ?_
  refine RC.region rfl ?_
  refine RL.ev (.move rfl) rfl rfl ?_
  refine RL.ev (.len sl25 rfl) rfl rfl ?_
  refine RL.ev (.move rfl) rfl rfl ?_
  refine RL.nil (RC.back ?_)
  refine RC.block ?_
  refine RC.loop (α := Nat × Option Addr × Nat × Nat) (fun x => [(1, .int .i64 key), (5, .slice x.2.1 x.2.2.1 x.2.2.2), (22, .slice pa l.length pc), (23, .int .i64 (l.length : Int)), (24, .int .i64 (x.1 : Int))]) (fun x w1 => (x.1 ≤ l.length ∧ x.2.2.1 = (rowN m60W idW 12 l x.1).length ∧ (rowN m60W idW 12 l x.1).length ≤ x.2.2.2) ∧ Sl w1 x.2.1 2 ((rowN m60W idW 12 l x.1).map It.cells) ∧ Sub w w1) (fun x => l.length - x.1) (0, none, 0, 0) (keep_of (by repeat (first | exact trivial | refine And.intro rfl ?_))) (⟨⟨Nat.zero_le _, rfl, Nat.zero_le _⟩, Sl.nil _ _ _, S⟩) (fun x w1 hJ => ?_)
  obtain ⟨i, ra, rm, rc⟩ := x; obtain ⟨⟨hi, hm, hc⟩, hr, S⟩ := hJ; simp only [] at hi hm hc hr; have hrl := rowN_len m60W idW 12 l i
  refine RC.seq ?_
  refine RC.region rfl ?_
  refine RL.ev (.bin rfl rfl rfl) rfl rfl ?_
  refine RL.nil (RC.back ?_)
  refine RC.seq ?_
  refine RC.cond_dec rfl (fun h2 => ?_) (fun h2 => ?_)
  ·
    obtain ⟨x, hx⟩ := getSome (l := l) (i := i) (by omega)
    have hxi : -9223372036854775808 ≤ x ∧ x ≤ 9223372036854775807 := hli x (List.mem_of_getElem? hx)
    have nmx := norm_mod x 60 (by decide)
    refine RC.skip (RC.back ?_)
    refine RC.seq ?_
    refine RC.block ?_
    refine RC.seq ?_
    refine RC.region rfl ?_
    refine RL.ev (.move rfl) rfl rfl ?_
    refine RL.ev (.indexS sl25 rfl rfl (by omega) (hs.is (i := 0) (by simp only [List.length_map, List.length_cons, List.length_nil]; omega))) rfl rfl ?_
    refine RL.ev (.load1 sh2 rfl ((hs.sub S).one (enc := i6) (i := i) hx)) rfl rfl ?_
    refine RL.ev (.assign rfl) rfl rfl ?_
    refine RL.ev (.assign rfl) rfl rfl ?_
    refine RL.nil (RC.back ?_)
    refine RC.seq ?_
    refine RC.region rfl ?_
    refine RL.ev (.move rfl) rfl rfl ?_
    refine RL.ev (.bin rfl rfl rfl) rfl rfl ?_
    refine RL.nil (RC.back ?_)
    refine RC.cond_dec rfl (fun h3 => ?_) (fun h3 => ?_)
    ·
      have hlt : i < 12 := (by omega)
      refine RC.region rfl ?_
      refine RL.ev (.move rfl) rfl rfl ?_
      refine RL.ev (.move rfl) rfl rfl ?_
      refine RL.ev (.rem rfl rfl (by decide)) rfl rfl ?_
      refine RL.ev (.as (.bin rfl rfl rfl) (wi64 (y := x.tmod 60 + 60) (by rfl) (by omega))) rfl rfl ?_
      refine RL.ev (.as (v' := .int .i64 (x % 60)) (.rem rfl rfl (by decide)) (by rw [nmx.2.2])) rfl rfl ?_
      refine RL.ev (.move rfl) rfl rfl ?_
      refine RL.call rfl ok16 (c_refPut (rowN m60W idW 12 l i) ra rc rm hm (x % 60) (i : Int) w1 (hr) (by omega)) rfl rfl ?_
      rintro vr w4 ⟨a1, c1, hvr, o1, s5⟩
      have S := S.trans s5
      rw [← show rowN m60W idW 12 l (i + 1) = putR (rowN m60W idW 12 l i) (x % 60) (i : Int) from rowN_put hx hlt] at hvr o1
      subst hvr
      have hc1 : (rowN m60W idW 12 l (i + 1)).length ≤ c1 := (by obtain ⟨_, c', e, h⟩ := o1.form; cases e; rw [List.length_map] at h; exact h)
      refine RL.ev (.assign rfl) rfl rfl ?_
      refine RL.nil (RC.back ?_)
      refine RC.region rfl ?_
      refine RL.ev (.as (.bin rfl rfl rfl) (wi64 (y := ((i + 1 : Nat) : Int)) (by omega) (by omega))) rfl rfl ?_
      refine RL.ev (.move rfl) rfl rfl ?_
      exact RL.nil (fun a ka => ⟨(i + 1, a1, _, c1), ⟨⟨by omega, List.length_map _, hc1⟩, o1.sl.1, S⟩, by omega, ka.keep (keep_of (by repeat (first | exact trivial | refine And.intro rfl ?_)))⟩)
    ·
      have hge : ¬ i < 12 := (by omega)
      rw [← rowN_stay hge] at hm hc hr
      refine RC.skip (RC.back ?_)
      refine RC.region rfl ?_
      refine RL.ev (.as (.bin rfl rfl rfl) (wi64 (y := ((i + 1 : Nat) : Int)) (by omega) (by omega))) rfl rfl ?_
      refine RL.ev (.move rfl) rfl rfl ?_
      exact RL.nil (fun a ka => ⟨(i + 1, ra, rm, rc), ⟨⟨by omega, hm, hc⟩, hr, S⟩, by omega, ka.keep (keep_of (by repeat (first | exact trivial | refine And.intro rfl ?_)))⟩)
  ·
    obtain rfl : i = l.length := (by omega)
    have hRs := rowN_srt m60W idW 12 l l.length
    have hRok := rowN_all (f := m60W) (g := idW) (most := 12) (l := l) (P := It.ok) (fun x hx i hi => ⟨by unfold I64; show _ ≤ x % 60 ∧ x % 60 ≤ _; omega, by unfold I64; show _ ≤ (i : Int) ∧ (i : Int) ≤ _; omega⟩) l.length (Nat.le_refl _)
    have hRw : Low (rowN m60W idW 12 l l.length) := rowN_all (f := m60W) (g := idW) (most := 12) (l := l) (P := fun z => 0 ≤ z.k ∧ z.k < 60) (fun x hx i hi => by show 0 ≤ x % 60 ∧ x % 60 < 60; omega) l.length (Nat.le_refl _)
    obtain ⟨R, hR⟩ : ∃ R, rowN m60W idW 12 l l.length = R := ⟨_, rfl⟩
    rw [hR] at hm hc hr hrl hRs hRok hRw
    have hR12 := hrl.1
    subst hm
    obtain ⟨W0, S0, hr⟩ : ∃ W, Sub W w1 ∧ Sl W ra 2 (R.map It.cells) := ⟨_, Sub.refl _, hr⟩
    have hap := hRs.ap
    have hcR := cnt_low hap hRw
    have pp := putR_putM R kk (-1)
    have hpa := (hap.put (key := kk) (v := -1)).perm pp.symm
    have hpw := (hRw.put (v := -1) hkr).perm pp.symm
    have hcP := cnt_low hpa hpw
    have hpl := putR_len R kk (-1)
    have hpok : ∀ z ∈ putR R kk (-1), z.ok := (fun z hz => (List.mem_cons.1 (pp.mem_iff.1 hz)).elim (fun e => e ▸ ⟨hki, i64_m1⟩) (fun h => hRok z (delL_mem.1 h).1))
    refine RC.exit rfl (RC.back ?_)
    refine RC.seq ?_
    refine RC.region rfl ?_
    refine RL.ev (.move rfl) rfl rfl ?_
    refine RL.ev (.rem rfl rfl (by decide)) rfl rfl ?_
    refine RL.ev (.as (.bin rfl rfl rfl) (wi64 (y := key.tmod 60 + 60) (by rfl) (by omega))) rfl rfl ?_
    refine RL.ev (.as (v' := .int .i64 kk) (.rem rfl rfl (by decide)) (by rw [nmk.2.2, hkk])) rfl rfl ?_
    refine RL.ev (.assign rfl) rfl rfl ?_
    refine RL.nil (RC.back ?_)
    refine RC.seq ?_
    refine RC.region rfl ?_
    refine RL.ev (.move rfl) rfl rfl ?_
    refine RL.call rfl ok18 (c_build9 300 R ra rc _ rfl hap (fun x _ => Nat.le_trans (shL_low hap hRw x.k) (by decide)) hRok (by omega) (by decide) (by decide) (by omega) w1 (hr.sub S0)) rfl rfl ?_
    rintro _ w6 ⟨A1, r1, na1, fa1, nc1, fc1, rfl, hB1, hn1, hf1, hi1, s7⟩
    have hA1 := (hi1 (fun _ => False) (fun _ h => h.elim)).now
    have S := S.trans s7
    have S0 := S0.trans s7
    obtain ⟨W1, S1, hA1⟩ : ∃ W, Sub W w6 ∧ ArR W na1 fa1 A1 := ⟨_, Sub.refl _, hA1⟩
    have hT1 := hB1.isH (by decide)
    have hok1 := hB1.ok (by decide) (by decide)
    have hU1 := hB1.u
    have htab1 := tab_of hok1 hT1 hap (by omega)
    have hwl1 := rowH_wl hT1
    have hpm1 := rowH_perm hT1
    refine RL.ev (.move rfl) rfl rfl ?_
    refine RL.ev (.extract rfl rfl) rfl rfl ?_
    refine RL.ev (.extract rfl rfl) rfl rfl ?_
    refine RL.alloc ze34 rfl rfl (fun b_8 w_8 e_8 z_8 hb_8 s_8 => ?_)
    have ge_8 := S.le e_8
    have S := S.trans s_8
    have geS0_8 := S0.le e_8
    have S0 := S0.trans s_8
    have geS1_8 := S1.le e_8
    have S1 := S1.trans s_8
    refine RL.store sh34 rfl rfl rfl hb_8 (by exact Nat.le_of_ble_eq_true rfl) (by rfl) rfl (fun w8 z8 hb_8 a8 => ?_)
    have S := S.upd a8 ge_8
    have S0 := S0.upd a8 geS0_8
    have S1 := S1.upd a8 geS1_8
    have hb_8 : Has w8 b_8 ([.slice na1 A1.nodes.length nc1, .slice fa1 A1.free.length fc1]) _ := hb_8.now (by kernel_rfl)
    refine RL.ev (.assign rfl) rfl rfl ?_
    refine RL.nil (RC.back ?_)
    refine RC.seq ?_
    refine RC.region rfl ?_
    refine RL.ev (.move rfl) rfl rfl ?_
    refine RL.ev (.move rfl) rfl rfl ?_
    refine RL.call rfl ok16 (c_refPut R ra rc _ rfl kk (-1) w8 (hr.sub S0) (by omega)) rfl rfl ?_
    rintro _ w9 ⟨qa, qc, rfl, o8, s10⟩
    have S := S.trans s10
    have S0 := S0.trans s10
    have S1 := S1.trans s10
    have hb_8 := hb_8.sub s10
    have hq := o8.sl.1
    refine RL.call rfl ok18 (c_build9 300 (putR R kk (-1)) qa qc _ (List.length_map _) hpa (fun x _ => Nat.le_trans (shL_low hpa hpw x.k) (by decide)) hpok (by omega) (by decide) (by decide) (by omega) w9 hq) rfl rfl ?_
    rintro _ w11 ⟨A2, r2, na2, fa2, nc2, fc2, rfl, hB2, hn2, hf2, hi2, s12⟩
    have hA2 := (hi2 (fun _ => False) (fun _ h => h.elim)).now
    have S := S.trans s12
    have S0 := S0.trans s12
    have S1 := S1.trans s12
    have hb_8 := hb_8.sub s12
    obtain ⟨W2, S2, hA2⟩ : ∃ W, Sub W w11 ∧ ArR W na2 fa2 A2 := ⟨_, Sub.refl _, hA2⟩
    have hT2 := hB2.isH (by decide)
    have hok2 := hB2.ok (by decide) (by decide)
    have hU2 := hB2.u
    have htab2 := tab_of hok2 hT2 hpa (by omega)
    have hwl2 := rowH_wl hT2
    have hpm2 := rowH_perm hT2
    refine RL.ev (.move rfl) rfl rfl ?_
    refine RL.ev (.extract rfl rfl) rfl rfl ?_
    refine RL.ev (.extract rfl rfl) rfl rfl ?_
    refine RL.alloc ze34 rfl rfl (fun b_10 w_10 e_10 z_10 hb_10 s_10 => ?_)
    have ge_10 := S.le e_10
    have n_8__10 := hb_8.ne e_10
    have S := S.trans s_10
    have geS0_10 := S0.le e_10
    have S0 := S0.trans s_10
    have geS1_10 := S1.le e_10
    have S1 := S1.trans s_10
    have hb_8 := hb_8.sub s_10
    have geS2_10 := S2.le e_10
    have S2 := S2.trans s_10
    refine RL.store sh34 rfl rfl rfl hb_10 (by exact Nat.le_of_ble_eq_true rfl) (by rfl) rfl (fun w13 z13 hb_10 a13 => ?_)
    have S := S.upd a13 ge_10
    have S0 := S0.upd a13 geS0_10
    have S1 := S1.upd a13 geS1_10
    have hb_8 := hb_8.upd a13 n_8__10
    have S2 := S2.upd a13 geS2_10
    have hb_10 : Has w13 b_10 ([.slice na2 A2.nodes.length nc2, .slice fa2 A2.free.length fc2]) _ := hb_10.now (by kernel_rfl)
    refine RL.ev (.assign rfl) rfl rfl ?_
    refine RL.nil (RC.back ?_)
    refine RC.seq ?_
    refine RC.region rfl ?_
    refine RL.ev (.loadR ([.slice na1 A1.nodes.length nc1, .slice fa1 A1.free.length fc1]) sh34 rfl hb_8.row rfl) rfl rfl ?_
    refine RL.ev (.move rfl) rfl rfl ?_
    refine RL.call rfl ok21 (c_wAll A1 na1 fa1 nc1 fc1 hn1 hf1 r1 hU1 w13 (hA1.sub S1)) rfl rfl ?_
    rintro _ w14 ⟨s15, xa, xc, X, e3, rfl, hX, _, hX2⟩
    have S := S.trans s15
    have S0 := S0.trans s15
    have S1 := S1.trans s15
    have hb_8 := hb_8.sub s15
    have S2 := S2.trans s15
    have hb_10 := hb_10.sub s15
    obtain ⟨hXe, he3⟩ := hX2 htab1
    rw [← hXe] at hwl1 hpm1
    have hXl := hpm1.length_eq
    obtain ⟨W3, S3, hX⟩ : ∃ W, Sub W w14 ∧ Sl W xa 2 (X.map It.cells) := ⟨_, Sub.refl _, hX⟩
    refine RL.ev (.move rfl) rfl rfl ?_
    refine RL.ev (.extract rfl rfl) rfl rfl ?_
    refine RL.ev (.extract rfl rfl) rfl rfl ?_
    refine RL.ev (.assign rfl) rfl rfl ?_
    refine RL.ev (.assign rfl) rfl rfl ?_
    refine RL.nil (RC.back ?_)
    refine RC.seq ?_
    refine RC.region rfl ?_
    refine RL.ev (.loadR ([.slice na2 A2.nodes.length nc2, .slice fa2 A2.free.length fc2]) sh34 rfl hb_10.row rfl) rfl rfl ?_
    refine RL.ev (.move rfl) rfl rfl ?_
    refine RL.call rfl ok21 (c_wAll A2 na2 fa2 nc2 fc2 hn2 hf2 r2 hU2 w14 (hA2.sub S2)) rfl rfl ?_
    rintro _ w16 ⟨s17, ya, yc, Y, e4, rfl, hY, _, hY2⟩
    have S := S.trans s17
    have S0 := S0.trans s17
    have S1 := S1.trans s17
    have hb_8 := hb_8.sub s17
    have S2 := S2.trans s17
    have hb_10 := hb_10.sub s17
    have S3 := S3.trans s17
    obtain ⟨hYe, he4⟩ := hY2 htab2
    rw [← hYe] at hwl2 hpm2
    have hYl := hpm2.length_eq
    obtain ⟨W4, S4, hY⟩ : ∃ W, Sub W w16 ∧ Sl W ya 2 (Y.map It.cells) := ⟨_, Sub.refl _, hY⟩
    have hXY : delL Y kk = delL X kk := wl_unique (wl_del hwl2 kk) (wl_del hwl1 kk) ((delL_perm hpm2).trans ((delL_perm pp).trans (by rw [show delL (putM R kk (-1)) kk = delL R kk from by unfold putM delL; rw [List.filter_cons, if_neg (by simp), List.filter_filter]; simp only [Bool.and_self]]; exact (delL_perm hpm1).symm)))
    refine RL.ev (.move rfl) rfl rfl ?_
    refine RL.ev (.extract rfl rfl) rfl rfl ?_
    refine RL.ev (.extract rfl rfl) rfl rfl ?_
    refine RL.ev (.assign rfl) rfl rfl ?_
    refine RL.ev (.assign rfl) rfl rfl ?_
    refine RL.nil (RC.back ?_)
    refine RC.seq ?_
    refine RC.seq ?_
    refine RC.region rfl ?_
    refine RL.ev (.move rfl) rfl rfl ?_
    refine RL.ev (.as (v' := .bool false) (.bin rfl rfl rfl) (congrArg Value.bool (decide_eq_false (fun h => h he3)))) rfl rfl ?_
    refine RL.ev (.move rfl) rfl rfl ?_
    refine RL.ev (.move rfl) rfl rfl ?_
    refine RL.ev (.as (v' := .bool false) (.bin rfl rfl rfl) (congrArg Value.bool (decide_eq_false (fun h => h he4)))) rfl rfl ?_
    refine RL.ev (.pick_f rfl rfl) rfl rfl ?_
    refine RL.ev (.move rfl) rfl rfl ?_
    refine RL.call rfl ok15 (c_alive10 w16) rfl rfl ?_
    rintro _ w18 ⟨rfl, s19⟩
    have S := S.trans s19
    have S0 := S0.trans s19
    have S1 := S1.trans s19
    have hb_8 := hb_8.sub s19
    have S2 := S2.trans s19
    have hb_10 := hb_10.sub s19
    have S3 := S3.trans s19
    have S4 := S4.trans s19
    refine RL.ev (.not rfl) rfl rfl ?_
    refine RL.ev (.pick_f rfl rfl) rfl rfl ?_
    refine RL.nil (RC.back ?_)
    refine RC.cond_f rfl ?_
    refine RC.skip (RC.back ?_)
    refine RC.seq ?_
    refine RC.region rfl ?_
    refine RL.ev (.assign rfl) rfl rfl ?_
    refine RL.ev (.assign rfl) rfl rfl ?_
    obtain ⟨E, hE⟩ : ∃ E, E = w18.heap.size := ⟨_, rfl⟩
    have q0 := S.size
    have q3 := S3.size
    have q4 := S4.size
    rw [← hE] at q0 q3 q4
    refine RL.nil (RC.back ?_)
    refine RC.seq ?_
    refine RC.seq ?_
    refine RC.region rfl ?_
    refine RL.ev (.move rfl) rfl rfl ?_
    refine RL.ev (.len sl26 rfl) rfl rfl ?_
    refine RL.ev (.move rfl) rfl rfl ?_
    refine RL.nil (RC.back ?_)
    refine RC.block ?_
    refine RC.loop (α := Nat × Option Addr × Nat × Nat) (fun x => [(1, .int .i64 kk), (12, .slice xa X.length xc), (14, .slice ya Y.length yc), (16, .slice x.2.1 x.2.2.1 x.2.2.2), (17, .slice none 0 0), (77, .slice ya Y.length yc), (78, .int .i64 (Y.length : Int)), (79, .int .i64 (x.1 : Int))]) (fun x w20 => x.1 ≤ Y.length ∧ Ows E w20 29 2 (.slice x.2.1 x.2.2.1 x.2.2.2) ((delL (Y.take x.1) kk).map It.cells) ∧ E ≤ w20.heap.size ∧ Sub W3 w20 ∧ Sub W4 w20 ∧ Sub w w20) (fun x => Y.length - x.1) (0, none, 0, 0) (keep_of (by repeat (first | exact trivial | refine And.intro rfl ?_))) (⟨Nat.zero_le _, Ows.nil _ _ _ _, by omega, S3, S4, S⟩) (fun x w20 hJ => ?_)
    obtain ⟨j, oa, om, oc⟩ := x; obtain ⟨hj, o, szB, S3, S4, S⟩ := hJ; simp only [] at hj o; obtain rfl := o.sl.2; have hY3 := hY.sub S4; have hdl : (delL (Y.take j) kk).length ≤ (Y.take j).length := List.length_filter_le _ _; rw [List.length_take] at hdl
    refine RC.seq ?_
    refine RC.region rfl ?_
    refine RL.ev (.bin rfl rfl rfl) rfl rfl ?_
    refine RL.nil (RC.back ?_)
    refine RC.seq ?_
    refine RC.cond_dec rfl (fun h21 => ?_) (fun h21 => ?_)
    ·
      obtain ⟨y, hy⟩ := getSome (l := Y) (i := j) (by omega)
      refine RC.skip (RC.back ?_)
      refine RC.seq ?_
      refine RC.block ?_
      refine RC.seq ?_
      refine RC.region rfl ?_
      refine RL.ev (.move rfl) rfl rfl ?_
      refine RL.ev (.indexS sl26 rfl rfl (by omega) (hY3.is (i := 0) (by simp only [List.length_map, List.length_cons, List.length_nil]; omega))) rfl rfl ?_
      refine RL.ev (.loadR (y.cells) sh29 rfl (hY3.rowAt (enc := It.cells) (i := j) hy) rfl) rfl rfl ?_
      refine RL.alloc ze29 rfl rfl (fun b_19 w_19 e_19 z_19 hb_19 s_19 => ?_)
      have ge_19 := S.le e_19
      have d_o_b_19 := o.neNew e_19
      have S := S.trans s_19
      have geS3_19 := S3.le e_19
      have S3 := S3.trans s_19
      have geS4_19 := S4.le e_19
      have S4 := S4.trans s_19
      have szB := Nat.le_trans szB s_19.size
      have o := o.sub s_19
      refine RL.ev (.assign rfl) rfl rfl ?_
      refine RL.store sh29 rfl rfl rfl hb_19 (by exact Nat.le_of_ble_eq_true rfl) (by rfl) rfl (fun w22 z22 hb_19 a22 => ?_)
      have S := S.upd a22 ge_19
      have S3 := S3.upd a22 geS3_19
      have S4 := S4.upd a22 geS4_19
      have szB := Nat.le_trans szB a22.size
      have o := o.updD a22 d_o_b_19
      have hb_19 : Has w22 b_19 (y.cells) _ := hb_19.now (by kernel_rfl)
      have hYf := Ft.of_sub (w := W4) (I := fun u => Sl u ya 2 (Y.map It.cells)) fun u s => hY.sub s
      have hYf := hYf.sub S4
      refine RL.nil (RC.back ?_)
      refine RC.seq ?_
      refine RC.seq ?_
      refine RC.draw rfl mxo (by kernel_rfl) ?_
      refine RQ.ev (.move rfl) rfl rfl ?_
      refine RQ.ev (.bin rfl rfl rfl) rfl rfl ?_
      refine RQ.ev (.move rfl) rfl rfl ?_
      refine RQ.split 86 rfl (fun h23 => ?_) (fun h23 => ?_)
      ·
        obtain ⟨z, hz⟩ := getSome (l := Y) (i := j - 1) (by omega)
        have hzy := wl_get hwl2 hz hy (by omega)
        have hj1 : 0 < j := (by omega)
        refine RQ.ev (.move rfl) rfl rfl ?_
        refine RQ.ev (.move rfl) rfl rfl ?_
        refine RQ.ev (.as (.bin rfl rfl rfl) (wi64 (y := ((j - 1 : Nat) : Int)) (by omega) (by omega))) rfl rfl ?_
        refine RQ.ev (.indexS sl26 rfl rfl (by omega) (hY3.is (i := j - 1) (by simp only [List.length_map]; omega))) rfl rfl ?_
        refine RQ.ev (.fieldA fo29_0 rfl) rfl rfl ?_
        refine RQ.ev (.load1 sh2 rfl (((hYf).now).cell (enc := It.cells) (j := 0) hz rfl)) rfl rfl ?_
        refine RQ.ev (.field0 fo29_0 rfl) rfl rfl ?_
        refine RQ.ev (.load1 sh2 rfl (hb_19.cell rfl)) rfl rfl ?_
        refine RQ.call rfl ok14 (fun w' s' => c_wLess z.k y.k w') rfl rfl ?_
        refine RQ.ev (.as (v' := .bool false) (.not rfl) (congrArg Value.bool (by rw [hzy]; rfl))) rfl rfl ?_
        refine RQ.ev (.pick_t rfl rfl) rfl rfl ?_
        refine RQ.nil (fun w24 s25 => RC.back ?_)
        have S := S.trans s25
        have S3 := S3.trans s25
        have S4 := S4.trans s25
        have szB := Nat.le_trans szB s25.size
        have o := o.sub s25
        have hb_19 := hb_19.sub s25
        refine RC.cond_f rfl ?_
        refine RC.skip (RC.back ?_)
        refine RC.seq ?_
        refine RC.region rfl ?_
        refine RL.ev (.field0 fo29_0 rfl) rfl rfl ?_
        refine RL.ev (.load1 sh2 rfl (hb_19.cell rfl)) rfl rfl ?_
        refine RL.ev (.move rfl) rfl rfl ?_
        refine RL.ev (.bin rfl rfl rfl) rfl rfl ?_
        refine RL.nil (RC.back ?_)
        refine RC.cond_dec rfl (fun h26 => ?_) (fun h26 => ?_)
        ·
          have q101 : ¬ y.k = kk := h26
          refine RC.region rfl ?_
          refine RL.ev (.move rfl) rfl rfl ?_
          refine RL.ev (.loadR (y.cells) sh29 rfl hb_19.row rfl) rfl rfl ?_
          refine RL.buildSlice1 sl26 _ ze29 rfl rfl rfl rfl rfl rfl rfl (fun b_104 w_104 e_104 z_104 hb_104 s_104 => ?_)
          have ge_104 := S.le e_104
          have n_19__104 := hb_19.ne e_104
          have d_o_b_104 := o.neNew e_104
          have S := S.trans s_104
          have geS3_104 := S3.le e_104
          have S3 := S3.trans s_104
          have geS4_104 := S4.le e_104
          have S4 := S4.trans s_104
          have szB := Nat.le_trans szB s_104.size
          have o := o.sub s_104
          have hb_19 := hb_19.sub s_104
          have sz_105 := S.size
          have szS3_105 := S3.size
          have szS4_105 := S4.size
          have ltb_19_105 := hb_19.lt
          have ltb_104_105 := hb_104.lt
          refine RL.append2 (base := E) (rows := (delL (Y.take j) kk).map It.cells) (news := [_]) sl26 ze29 rfl rfl rfl rfl (.inl o) (Has.slOne hb_104) rfl (by intro r hr; rw [List.mem_singleton] at hr; subst hr; rfl) rfl (by (try simp only [List.length_map, List.length_nil, List.length_append, List.length_cons]); omega) (by (try simp only [List.length_map, List.length_nil, List.length_append, List.length_cons]); omega) (by omega) rfl rfl (fun v_105 w_105 hc_105 ho_105 ag_105 ob_105 => ?_)
          have o105 := ho_105 (.inl (by simp))
          rw [show _ ++ [_] = ((delL (Y.take j) kk ++ [y]).map It.cells) from by rw [List.map_append]; rfl] at o105
          have d_o105_b_19 := obNe ob_105 d_o_b_19 hb_19.lt
          have S := S.agrN ag_105 (fun k e => Nat.le_trans (by omega) e.2)
          have S3 := S3.agrN ag_105 (fun k e => Nat.le_trans (by omega) e.2)
          have S4 := S4.agrN ag_105 (fun k e => Nat.le_trans (by omega) e.2)
          have szB := Nat.le_trans szB ag_105.size
          have hb_19 := hb_19.step ag_105 (fun e => d_o_b_19 _ e.1 rfl)
          obtain ⟨a_105, c_105, rfl, k_105⟩ := o105.form
          refine RL.ev (.assign rfl) rfl rfl ?_
          refine RL.nil (RC.back ?_)
          refine RC.region rfl ?_
          refine RL.ev (.as (.bin rfl rfl rfl) (wi64 (y := ((j + 1 : Nat) : Int)) (by simp only []; omega) (by omega))) rfl rfl ?_
          refine RL.ev (.move rfl) rfl rfl ?_
          exact RL.nil (fun a ka => ⟨(j + 1, a_105, _, c_105), ⟨by simp only []; omega, (by rw [del_take hy, if_neg q101]; exact o105), szB, S3, S4, S⟩, by simp only []; omega, ka.keep (keep_of (by repeat (first | exact trivial | refine And.intro rfl ?_)))⟩)
        ·
          have q101 : y.k = kk := Decidable.not_not.1 h26
          refine RC.skip (RC.back ?_)
          refine RC.region rfl ?_
          refine RL.ev (.as (.bin rfl rfl rfl) (wi64 (y := ((j + 1 : Nat) : Int)) (by simp only []; omega) (by omega))) rfl rfl ?_
          refine RL.ev (.move rfl) rfl rfl ?_
          exact RL.nil (fun a ka => ⟨(j + 1, oa, _, oc), ⟨by simp only []; omega, (by rw [del_take hy, if_pos q101, List.append_nil]; exact o), szB, S3, S4, S⟩, by simp only []; omega, ka.keep (keep_of (by repeat (first | exact trivial | refine And.intro rfl ?_)))⟩)
      ·
        refine RQ.off rfl rfl ?_
        refine RQ.off rfl rfl ?_
        refine RQ.off rfl rfl ?_
        refine RQ.off rfl rfl ?_
        refine RQ.off rfl rfl ?_
        refine RQ.off rfl rfl ?_
        refine RQ.off rfl rfl ?_
        refine RQ.off rfl rfl ?_
        refine RQ.off rfl rfl ?_
        refine RQ.off rfl rfl ?_
        refine RQ.ev (.pick_f rfl rfl) rfl rfl ?_
        refine RQ.nil (fun w27 s28 => RC.back ?_)
        have S := S.trans s28
        have S3 := S3.trans s28
        have S4 := S4.trans s28
        have szB := Nat.le_trans szB s28.size
        have o := o.sub s28
        have hb_19 := hb_19.sub s28
        refine RC.cond_f rfl ?_
        refine RC.skip (RC.back ?_)
        refine RC.seq ?_
        refine RC.region rfl ?_
        refine RL.ev (.field0 fo29_0 rfl) rfl rfl ?_
        refine RL.ev (.load1 sh2 rfl (hb_19.cell rfl)) rfl rfl ?_
        refine RL.ev (.move rfl) rfl rfl ?_
        refine RL.ev (.bin rfl rfl rfl) rfl rfl ?_
        refine RL.nil (RC.back ?_)
        refine RC.cond_dec rfl (fun h29 => ?_) (fun h29 => ?_)
        ·
          have q101 : ¬ y.k = kk := h29
          refine RC.region rfl ?_
          refine RL.ev (.move rfl) rfl rfl ?_
          refine RL.ev (.loadR (y.cells) sh29 rfl hb_19.row rfl) rfl rfl ?_
          refine RL.buildSlice1 sl26 _ ze29 rfl rfl rfl rfl rfl rfl rfl (fun b_104 w_104 e_104 z_104 hb_104 s_104 => ?_)
          have ge_104 := S.le e_104
          have n_19__104 := hb_19.ne e_104
          have d_o_b_104 := o.neNew e_104
          have S := S.trans s_104
          have geS3_104 := S3.le e_104
          have S3 := S3.trans s_104
          have geS4_104 := S4.le e_104
          have S4 := S4.trans s_104
          have szB := Nat.le_trans szB s_104.size
          have o := o.sub s_104
          have hb_19 := hb_19.sub s_104
          have sz_105 := S.size
          have szS3_105 := S3.size
          have szS4_105 := S4.size
          have ltb_19_105 := hb_19.lt
          have ltb_104_105 := hb_104.lt
          refine RL.append2 (base := E) (rows := (delL (Y.take j) kk).map It.cells) (news := [_]) sl26 ze29 rfl rfl rfl rfl (.inl o) (Has.slOne hb_104) rfl (by intro r hr; rw [List.mem_singleton] at hr; subst hr; rfl) rfl (by (try simp only [List.length_map, List.length_nil, List.length_append, List.length_cons]); omega) (by (try simp only [List.length_map, List.length_nil, List.length_append, List.length_cons]); omega) (by omega) rfl rfl (fun v_105 w_105 hc_105 ho_105 ag_105 ob_105 => ?_)
          have o105 := ho_105 (.inl (by simp))
          rw [show _ ++ [_] = ((delL (Y.take j) kk ++ [y]).map It.cells) from by rw [List.map_append]; rfl] at o105
          have d_o105_b_19 := obNe ob_105 d_o_b_19 hb_19.lt
          have S := S.agrN ag_105 (fun k e => Nat.le_trans (by omega) e.2)
          have S3 := S3.agrN ag_105 (fun k e => Nat.le_trans (by omega) e.2)
          have S4 := S4.agrN ag_105 (fun k e => Nat.le_trans (by omega) e.2)
          have szB := Nat.le_trans szB ag_105.size
          have hb_19 := hb_19.step ag_105 (fun e => d_o_b_19 _ e.1 rfl)
          obtain ⟨a_105, c_105, rfl, k_105⟩ := o105.form
          refine RL.ev (.assign rfl) rfl rfl ?_
          refine RL.nil (RC.back ?_)
          refine RC.region rfl ?_
          refine RL.ev (.as (.bin rfl rfl rfl) (wi64 (y := ((j + 1 : Nat) : Int)) (by simp only []; omega) (by omega))) rfl rfl ?_
          refine RL.ev (.move rfl) rfl rfl ?_
          exact RL.nil (fun a ka => ⟨(j + 1, a_105, _, c_105), ⟨by simp only []; omega, (by rw [del_take hy, if_neg q101]; exact o105), szB, S3, S4, S⟩, by simp only []; omega, ka.keep (keep_of (by repeat (first | exact trivial | refine And.intro rfl ?_)))⟩)
        ·
          have q101 : y.k = kk := Decidable.not_not.1 h29
          refine RC.skip (RC.back ?_)
          refine RC.region rfl ?_
          refine RL.ev (.as (.bin rfl rfl rfl) (wi64 (y := ((j + 1 : Nat) : Int)) (by simp only []; omega) (by omega))) rfl rfl ?_
          refine RL.ev (.move rfl) rfl rfl ?_
          exact RL.nil (fun a ka => ⟨(j + 1, oa, _, oc), ⟨by simp only []; omega, (by rw [del_take hy, if_pos q101, List.append_nil]; exact o), szB, S3, S4, S⟩, by simp only []; omega, ka.keep (keep_of (by repeat (first | exact trivial | refine And.intro rfl ?_)))⟩)
    ·
      obtain rfl : j = Y.length := (by omega)
      rw [List.take_length] at o
      obtain ⟨W5, S5, hRest⟩ : ∃ W, Sub W w20 ∧ Sl W oa 2 ((delL Y kk).map It.cells) := ⟨_, Sub.refl _, o.sl.1⟩
      obtain ⟨E2, hE2⟩ : ∃ E2, E2 = w20.heap.size := ⟨_, rfl⟩
      have q0' := S.size
      have q3' := S3.size
      have q5' := S5.size
      rw [← hE2] at q0' q3' q5'
      refine RC.exit rfl (RC.back ?_)
      refine RC.seq ?_
      refine RC.seq ?_
      refine RC.region rfl ?_
      refine RL.ev (.move rfl) rfl rfl ?_
      refine RL.ev (.len sl26 rfl) rfl rfl ?_
      refine RL.ev (.move rfl) rfl rfl ?_
      refine RL.nil (RC.back ?_)
      refine RC.block ?_
      refine RC.loop (α := Nat × Option Addr × Nat × Nat) (fun x => [(1, .int .i64 kk), (16, .slice oa ((delL (Y.take Y.length) kk).map It.cells).length oc), (17, .slice x.2.1 x.2.2.1 x.2.2.2), (107, .slice xa X.length xc), (108, .int .i64 (X.length : Int)), (109, .int .i64 (x.1 : Int))]) (fun x w30 => x.1 ≤ X.length ∧ Ows E2 w30 29 2 (.slice x.2.1 x.2.2.1 x.2.2.2) ((delL (X.take x.1) kk).map It.cells) ∧ E2 ≤ w30.heap.size ∧ Sub W3 w30 ∧ Sub W5 w30 ∧ Sub w w30) (fun x => X.length - x.1) (0, none, 0, 0) (keep_of (by repeat (first | exact trivial | refine And.intro rfl ?_))) (⟨Nat.zero_le _, Ows.nil _ _ _ _, by omega, S3, S5, S⟩) (fun x w30 hJ => ?_)
      obtain ⟨j, ta, tm, tc⟩ := x; obtain ⟨hj, o, szB, S3, S5, S⟩ := hJ; simp only [] at hj o; obtain rfl := o.sl.2; have hX3 := hX.sub S3; have hdl : (delL (X.take j) kk).length ≤ (X.take j).length := List.length_filter_le _ _; rw [List.length_take] at hdl
      refine RC.seq ?_
      refine RC.region rfl ?_
      refine RL.ev (.bin rfl rfl rfl) rfl rfl ?_
      refine RL.nil (RC.back ?_)
      refine RC.seq ?_
      refine RC.cond_dec rfl (fun h31 => ?_) (fun h31 => ?_)
      ·
        obtain ⟨x, hx⟩ := getSome (l := X) (i := j) (by omega)
        refine RC.skip (RC.back ?_)
        refine RC.seq ?_
        refine RC.block ?_
        refine RC.seq ?_
        refine RC.region rfl ?_
        refine RL.ev (.indexS sl26 rfl rfl (by omega) (hX3.is (i := 0) (by simp only [List.length_map, List.length_cons, List.length_nil]; omega))) rfl rfl ?_
        refine RL.ev (.loadR (x.cells) sh29 rfl (hX3.rowAt (enc := It.cells) (i := j) hx) rfl) rfl rfl ?_
        refine RL.alloc ze29 rfl rfl (fun b_21 w_21 e_21 z_21 hb_21 s_21 => ?_)
        have ge_21 := S.le e_21
        have d_o_b_21 := o.neNew e_21
        have S := S.trans s_21
        have geS3_21 := S3.le e_21
        have S3 := S3.trans s_21
        have geS5_21 := S5.le e_21
        have S5 := S5.trans s_21
        have szB := Nat.le_trans szB s_21.size
        have o := o.sub s_21
        refine RL.store sh29 rfl rfl rfl hb_21 (by exact Nat.le_of_ble_eq_true rfl) (by rfl) rfl (fun w32 z32 hb_21 a32 => ?_)
        have S := S.upd a32 ge_21
        have S3 := S3.upd a32 geS3_21
        have S5 := S5.upd a32 geS5_21
        have szB := Nat.le_trans szB a32.size
        have o := o.updD a32 d_o_b_21
        have hb_21 : Has w32 b_21 (x.cells) _ := hb_21.now (by kernel_rfl)
        refine RL.nil (RC.back ?_)
        refine RC.seq ?_
        refine RC.region rfl ?_
        refine RL.ev (.field0 fo29_0 rfl) rfl rfl ?_
        refine RL.ev (.load1 sh2 rfl (hb_21.cell rfl)) rfl rfl ?_
        refine RL.ev (.move rfl) rfl rfl ?_
        refine RL.ev (.bin rfl rfl rfl) rfl rfl ?_
        refine RL.nil (RC.back ?_)
        refine RC.cond_dec rfl (fun h33 => ?_) (fun h33 => ?_)
        ·
          have q116 : ¬ x.k = kk := h33
          refine RC.region rfl ?_
          refine RL.ev (.move rfl) rfl rfl ?_
          refine RL.ev (.loadR (x.cells) sh29 rfl hb_21.row rfl) rfl rfl ?_
          refine RL.buildSlice1 sl26 _ ze29 rfl rfl rfl rfl rfl rfl rfl (fun b_119 w_119 e_119 z_119 hb_119 s_119 => ?_)
          have ge_119 := S.le e_119
          have n_21__119 := hb_21.ne e_119
          have d_o_b_119 := o.neNew e_119
          have S := S.trans s_119
          have geS3_119 := S3.le e_119
          have S3 := S3.trans s_119
          have geS5_119 := S5.le e_119
          have S5 := S5.trans s_119
          have szB := Nat.le_trans szB s_119.size
          have o := o.sub s_119
          have hb_21 := hb_21.sub s_119
          have sz_120 := S.size
          have szS3_120 := S3.size
          have szS5_120 := S5.size
          have ltb_21_120 := hb_21.lt
          have ltb_119_120 := hb_119.lt
          refine RL.append2 (base := E2) (rows := (delL (X.take j) kk).map It.cells) (news := [_]) sl26 ze29 rfl rfl rfl rfl (.inl o) (Has.slOne hb_119) rfl (by intro r hr; rw [List.mem_singleton] at hr; subst hr; rfl) rfl (by (try simp only [List.length_map, List.length_nil, List.length_append, List.length_cons]); omega) (by (try simp only [List.length_map, List.length_nil, List.length_append, List.length_cons]); omega) (by omega) rfl rfl (fun v_120 w_120 hc_120 ho_120 ag_120 ob_120 => ?_)
          have o120 := ho_120 (.inl (by simp))
          rw [show _ ++ [_] = ((delL (X.take j) kk ++ [x]).map It.cells) from by rw [List.map_append]; rfl] at o120
          have d_o120_b_21 := obNe ob_120 d_o_b_21 hb_21.lt
          have S := S.agrN ag_120 (fun k e => Nat.le_trans (by omega) e.2)
          have S3 := S3.agrN ag_120 (fun k e => Nat.le_trans (by omega) e.2)
          have S5 := S5.agrN ag_120 (fun k e => Nat.le_trans (by omega) e.2)
          have szB := Nat.le_trans szB ag_120.size
          have hb_21 := hb_21.step ag_120 (fun e => d_o_b_21 _ e.1 rfl)
          obtain ⟨a_120, c_120, rfl, k_120⟩ := o120.form
          refine RL.ev (.assign rfl) rfl rfl ?_
          refine RL.nil (RC.back ?_)
          refine RC.region rfl ?_
          refine RL.ev (.as (.bin rfl rfl rfl) (wi64 (y := ((j + 1 : Nat) : Int)) (by simp only []; omega) (by omega))) rfl rfl ?_
          refine RL.ev (.move rfl) rfl rfl ?_
          exact RL.nil (fun a ka => ⟨(j + 1, a_120, _, c_120), ⟨by simp only []; omega, (by rw [del_take hx, if_neg q116]; exact o120), szB, S3, S5, S⟩, by simp only []; omega, ka.keep (keep_of (by repeat (first | exact trivial | refine And.intro rfl ?_)))⟩)
        ·
          have q116 : x.k = kk := Decidable.not_not.1 h33
          refine RC.skip (RC.back ?_)
          refine RC.region rfl ?_
          refine RL.ev (.as (.bin rfl rfl rfl) (wi64 (y := ((j + 1 : Nat) : Int)) (by simp only []; omega) (by omega))) rfl rfl ?_
          refine RL.ev (.move rfl) rfl rfl ?_
          exact RL.nil (fun a ka => ⟨(j + 1, ta, _, tc), ⟨by simp only []; omega, (by rw [del_take hx, if_pos q116, List.append_nil]; exact o), szB, S3, S5, S⟩, by simp only []; omega, ka.keep (keep_of (by repeat (first | exact trivial | refine And.intro rfl ?_)))⟩)
      ·
        obtain rfl : j = X.length := (by omega)
        rw [List.take_length] at o
        have hYd : (delL Y kk).length ≤ 1000000 := Nat.le_trans (List.length_filter_le _ _) (by omega)
        refine RC.exit rfl (RC.back ?_)
        refine RC.seq ?_
        refine RC.region rfl ?_
        refine RL.ev (.move rfl) rfl rfl ?_
        refine RL.ev (.move rfl) rfl rfl ?_
        refine RL.call rfl ok22 (c_same (delL Y kk) (delL X kk) oa ta oc tc _ _ (by rw [List.take_length, List.length_map]) (by rw [List.take_length, List.length_map]) w30 (hRest.sub S5) o.sl.1 hYd) rfl rfl ?_
        rintro _ w34 ⟨rfl, s35⟩
        have S := S.trans s35
        have S3 := S3.trans s35
        have S5 := S5.trans s35
        have szB := Nat.le_trans szB s35.size
        have o := o.sub s35
        refine RL.ev (.assign rfl) rfl rfl ?_
        refine RL.nil (RC.back ?_)
        refine RC.done (rs := [.tmp 4]) (vs := [_]) rfl rfl ⟨rfl, trivial⟩ ?_
        -- end 1
        exact ⟨congrArg Value.bool (decide_eq_true hXY), S⟩
end Go.Proofs.Ytbfjobmebkhblaa
