/-
  The reference of the layer model: rows.
-/
import Derived.Test.YtjafbffehmombaaModelRefH
set_option linter.unusedVariables false
set_option linter.unusedSimpArgs false
namespace Go.Proofs.Ytjafbffehmombaa
open Go Go.XL

def AnsRV (M : Nat → Prop) (w w' : World) (q : List Int × ResT) (u : Value) : Prop := Sub w w' ∧ ∃ a' c' M', u = .agg #[.slice a' q.1.length c', .int .i64 q.2.e, .int .i64 q.2.a, .int .i64 q.2.b] ∧ q.1.length ≤ c' ∧ Ft M' (fun u => Sl u a' 1 (q.1.map fun x => [i6 x])) w' ∧ Up M w M'
theorem c_refRowM (l : List Int) (a : Option Addr) (c m : Nat) (hm : m = l.length) (hl200 : l.length ≤ 200) (hc : l.length ≤ c) (o : OpT) (hok : okP o) (w : World) (M : Nat → Prop) (hF : Ft M (fun u => Sl u a 1 (l.map fun x => [i6 x])) w) :
    FC Try.prog 36 [.slice a m c, .agg o.cells.toArray] w (fun u w' => AnsRV M w w' (rowM l o) u) := by
  subst hm
  have hl := hF.now
  have hk := hok.1
  have hkk : 1 ≤ o.kind ∧ o.kind ≤ 6 := ⟨hk.2.2.1, hk.2.2.2.1⟩
  refine FC.intro Try.func36 rfl Try.ntmps36 rfl ?_
  have S := Sub.refl w
  refine RC.seq ?_
  refine RC.region rfl ?_
  refine RL.box rfl rfl rfl (fun b_3 w_3 e_3 z_3 hb_3 s_3 => ?_)
  have ge_3 := S.le e_3
  have S := S.trans s_3
  have hb_3 : Has w_3 b_3 ([.int .i64 o.box, .int .i64 o.kind, .int .i64 o.a, .int .i64 o.b]) _ := hb_3
  refine RL.alloc ze68 rfl rfl (fun b_4 w_4 e_4 z_4 hb_4 s_4 => ?_)
  have ge_4 := S.le e_4
  have n_3__4 := hb_3.ne e_4
  have S := S.trans s_4
  have hb_3 := hb_3.sub s_4
  refine RL.nil (RC.back ?_)
  refine RC.seq ?_
  refine RC.region rfl ?_
  refine RL.ev (.move rfl) rfl rfl ?_
  refine RL.ev (.len sl23 rfl) rfl rfl ?_
  refine RL.ev (.assign rfl) rfl rfl ?_
  refine RL.nil (RC.back ?_)
  refine RC.seq ?_
  refine RC.region rfl ?_
  refine RL.buildSlice0 sl23 rfl rfl (fun b_9 w_9 e_9 z_9 hb_9 s_9 => ?_)
  have ge_9 := S.le e_9
  have n_3__9 := hb_3.ne e_9
  have n_4__9 := hb_4.ne e_9
  have S := S.trans s_9
  have hb_3 := hb_3.sub s_9
  have hb_4 := hb_4.sub s_9
  refine RL.ev (.assign rfl) rfl rfl ?_
  refine RL.nil (RC.back ?_)
  refine RC.seq ?_
  refine RC.seq ?_
  refine RC.region rfl ?_
  refine RL.ev (.field0 fo34_1 rfl) rfl rfl ?_
  refine RL.ev (.load1 sh3 rfl (hb_3.cell rfl)) rfl rfl ?_
  refine RL.nil (RC.back ?_)
  refine RC.block ?_
  refine RC.seq ?_
  refine RC.region rfl ?_
  refine RL.ev (.bin rfl rfl rfl) rfl rfl ?_
  refine RL.ev (.assign rfl) rfl rfl ?_
  refine RL.nil (RC.back ?_)
  refine RC.cond_dec rfl (fun h1 => ?_) (fun h1 => ?_)
  ·
    have k12 := h1
    refine RC.seq ?_
    refine RC.region rfl ?_
    refine RL.ev (.move rfl) rfl rfl ?_
    refine RL.ev (.move rfl) rfl rfl ?_
    refine RL.ev (.as (v' := .agg #[.int .i64 0, .int .i64 (l.length : Int), .int .i64 0]) (.buildS ze39 pl39 rfl rfl) (by kernel_rfl)) rfl rfl ?_
    refine RL.ev (.as (v' := .agg #[.slice a l.length c, .int .i64 0, .int .i64 (l.length : Int), .int .i64 0]) (.buildS ze68 pl68 rfl rfl) (by kernel_rfl)) rfl rfl ?_
    refine RL.store sh68 rfl rfl rfl hb_4 (by exact Nat.le_of_ble_eq_true rfl) (by rfl) rfl (fun w2 z2 hb_4 a2 => ?_)
    have S := S.upd a2 ge_4
    have hb_3 := hb_3.upd a2 n_3__4
    have hb_9 := hb_9.upd a2 n_4__9.symm
    have hb_4 : Has w2 b_4 ([.slice a l.length c, .int .i64 0, .int .i64 (l.length : Int), .int .i64 0]) _ := hb_4.now (by kernel_rfl)
    refine RL.nil (RC.back ?_)
    refine RC.done (rs := [.cell 4 68]) (vs := [_]) rfl rfl ⟨⟨_, rfl, .inr ⟨[.slice a l.length c, .int .i64 0, .int .i64 (l.length : Int), .int .i64 0], sh68, hb_4.row, rfl⟩⟩, trivial⟩ ?_
    -- end 1
    have he : rowM l o = (l, ⟨0, l.length, 0⟩) := (by rw [rowM, if_pos k12])
    rw [he]
    exact ⟨S, _, _, M, rfl, hc, hF.sub S, Up.refl _ _⟩
  ·
    have n12 := h1
    refine RC.seq ?_
    refine RC.region rfl ?_
    refine RL.ev (.bin rfl rfl rfl) rfl rfl ?_
    refine RL.ev (.assign rfl) rfl rfl ?_
    refine RL.nil (RC.back ?_)
    refine RC.cond_dec rfl (fun h3 => ?_) (fun h3 => ?_)
    ·
      have k18 := h3
      refine RC.seq ?_
      refine RC.seq ?_
      refine RC.region rfl ?_
      refine RL.ev (.field0 fo34_2 rfl) rfl rfl ?_
      refine RL.ev (.load1 sh2 rfl (hb_3.cell rfl)) rfl rfl ?_
      refine RL.ev (.bin rfl rfl rfl) rfl rfl ?_
      refine RL.ev (.move rfl) rfl rfl ?_
      refine RL.split 23 rfl (fun h4 => ?_) (fun h4 => ?_)
      ·
        have k23 : o.a < 0 := h4
        refine RL.off rfl rfl ?_
        refine RL.off rfl rfl ?_
        refine RL.off rfl rfl ?_
        refine RL.off rfl rfl ?_
        refine RL.ev (.pick_t rfl rfl) rfl rfl ?_
        refine RL.nil (RC.back ?_)
        refine RC.cond_t rfl ?_
        refine RC.seq ?_
        refine RC.region rfl ?_
        refine RL.ev (.move rfl) rfl rfl ?_
        refine RL.ev (.as (v' := .agg #[.int .i64 3, .int .i64 0, .int .i64 0]) (.buildS ze39 pl39 rfl rfl) (by kernel_rfl)) rfl rfl ?_
        refine RL.ev (.as (v' := .agg #[.slice a l.length c, .int .i64 3, .int .i64 0, .int .i64 0]) (.buildS ze68 pl68 rfl rfl) (by kernel_rfl)) rfl rfl ?_
        refine RL.store sh68 rfl rfl rfl hb_4 (by exact Nat.le_of_ble_eq_true rfl) (by rfl) rfl (fun w5 z5 hb_4 a5 => ?_)
        have S := S.upd a5 ge_4
        have hb_3 := hb_3.upd a5 n_3__4
        have hb_9 := hb_9.upd a5 n_4__9.symm
        have hb_4 : Has w5 b_4 ([.slice a l.length c, .int .i64 3, .int .i64 0, .int .i64 0]) _ := hb_4.now (by kernel_rfl)
        refine RL.nil (RC.back ?_)
        refine RC.done (rs := [.cell 4 68]) (vs := [_]) rfl rfl ⟨⟨_, rfl, .inr ⟨[.slice a l.length c, .int .i64 3, .int .i64 0, .int .i64 0], sh68, hb_4.row, rfl⟩⟩, trivial⟩ ?_
        -- end 2
        have he : rowM l o = (l, ⟨3, 0, 0⟩) := (by rw [rowM, if_neg n12, if_neg (by omega), if_pos k18, if_pos (.inl k23)])
        rw [he]
        exact ⟨S, _, _, M, rfl, hc, hF.sub S, Up.refl _ _⟩
      ·
        have n23 : ¬ o.a < 0 := h4
        refine RL.ev (.field0 fo34_2 rfl) rfl rfl ?_
        refine RL.ev (.load1 sh2 rfl (hb_3.cell rfl)) rfl rfl ?_
        refine RL.ev (.move rfl) rfl rfl ?_
        refine RL.ev (.bin rfl rfl rfl) rfl rfl ?_
        refine RL.ev (.pick_f rfl rfl) rfl rfl ?_
        refine RL.nil (RC.back ?_)
        refine RC.cond_dec rfl (fun h6 => ?_) (fun h6 => ?_)
        ·
          have k28 : (l.length : Int) ≤ o.a := (by omega)
          refine RC.seq ?_
          refine RC.region rfl ?_
          refine RL.ev (.move rfl) rfl rfl ?_
          refine RL.ev (.as (v' := .agg #[.int .i64 3, .int .i64 0, .int .i64 0]) (.buildS ze39 pl39 rfl rfl) (by kernel_rfl)) rfl rfl ?_
          refine RL.ev (.as (v' := .agg #[.slice a l.length c, .int .i64 3, .int .i64 0, .int .i64 0]) (.buildS ze68 pl68 rfl rfl) (by kernel_rfl)) rfl rfl ?_
          refine RL.store sh68 rfl rfl rfl hb_4 (by exact Nat.le_of_ble_eq_true rfl) (by rfl) rfl (fun w7 z7 hb_4 a7 => ?_)
          have S := S.upd a7 ge_4
          have hb_3 := hb_3.upd a7 n_3__4
          have hb_9 := hb_9.upd a7 n_4__9.symm
          have hb_4 : Has w7 b_4 ([.slice a l.length c, .int .i64 3, .int .i64 0, .int .i64 0]) _ := hb_4.now (by kernel_rfl)
          refine RL.nil (RC.back ?_)
          refine RC.done (rs := [.cell 4 68]) (vs := [_]) rfl rfl ⟨⟨_, rfl, .inr ⟨[.slice a l.length c, .int .i64 3, .int .i64 0, .int .i64 0], sh68, hb_4.row, rfl⟩⟩, trivial⟩ ?_
          -- end 3
          have he : rowM l o = (l, ⟨3, 0, 0⟩) := (by rw [rowM, if_neg n12, if_neg (by omega), if_pos k18, if_pos (.inr k28)])
          rw [he]
          exact ⟨S, _, _, M, rfl, hc, hF.sub S, Up.refl _ _⟩
        ·
          have n28 : ¬ (l.length : Int) ≤ o.a := (by omega)
          obtain ⟨x, hx⟩ := getSome (l := l) (i := o.a.toNat) (by omega)
          have hxd := getD_of hx
          refine RC.skip (RC.back ?_)
          refine RC.seq ?_
          refine RC.region rfl ?_
          refine RL.ev (.move rfl) rfl rfl ?_
          refine RL.ev (.move rfl) rfl rfl ?_
          refine RL.ev (.field0 fo34_2 rfl) rfl rfl ?_
          refine RL.ev (.load1 sh2 rfl (hb_3.cell rfl)) rfl rfl ?_
          refine RL.ev (.indexS sl23 rfl rfl (by omega) (hl.is (i := 0) (by simp only [List.length_map, List.length_cons, List.length_nil]; omega))) rfl rfl ?_
          refine RL.ev (.load1 sh2 rfl ((hl.sub S).one (enc := i6) (i := o.a.toNat) hx)) rfl rfl ?_
          refine RL.ev (.as (v' := .agg #[.int .i64 0, .int .i64 x, .int .i64 0]) (.buildS ze39 pl39 rfl rfl) (by kernel_rfl)) rfl rfl ?_
          refine RL.ev (.as (v' := .agg #[.slice a l.length c, .int .i64 0, .int .i64 x, .int .i64 0]) (.buildS ze68 pl68 rfl rfl) (by kernel_rfl)) rfl rfl ?_
          refine RL.store sh68 rfl rfl rfl hb_4 (by exact Nat.le_of_ble_eq_true rfl) (by rfl) rfl (fun w8 z8 hb_4 a8 => ?_)
          have S := S.upd a8 ge_4
          have hb_3 := hb_3.upd a8 n_3__4
          have hb_9 := hb_9.upd a8 n_4__9.symm
          have hb_4 : Has w8 b_4 ([.slice a l.length c, .int .i64 0, .int .i64 x, .int .i64 0]) _ := hb_4.now (by kernel_rfl)
          refine RL.nil (RC.back ?_)
          refine RC.done (rs := [.cell 4 68]) (vs := [_]) rfl rfl ⟨⟨_, rfl, .inr ⟨[.slice a l.length c, .int .i64 0, .int .i64 x, .int .i64 0], sh68, hb_4.row, rfl⟩⟩, trivial⟩ ?_
          -- end 4
          have he : rowM l o = (l, ⟨0, x, 0⟩) := (by rw [rowM, if_neg n12, if_neg (by omega), if_pos k18, if_neg (by omega), hxd])
          rw [he]
          exact ⟨S, _, _, M, rfl, hc, hF.sub S, Up.refl _ _⟩
    ·
      have n18 := h3
      refine RC.seq ?_
      refine RC.seq ?_
      refine RC.region rfl ?_
      refine RL.ev (.bin rfl rfl rfl) rfl rfl ?_
      refine RL.ev (.assign rfl) rfl rfl ?_
      refine RL.nil (RC.back ?_)
      refine RC.cond_dec rfl (fun h9 => ?_) (fun h9 => ?_)
      ·
        have k40 := h9
        refine RC.skip (RC.back ?_)
        refine RC.cond_dec rfl (fun h10 => ?_) (fun h10 => absurd h9 h10)
        refine RC.seq ?_
        refine RC.seq ?_
        refine RC.region rfl ?_
        refine RL.ev (.move rfl) rfl rfl ?_
        refine RL.ev (.bin rfl rfl rfl) rfl rfl ?_
        refine RL.nil (RC.back ?_)
        refine RC.cond_dec rfl (fun h11 => ?_) (fun h11 => ?_)
        ·
          have k44 : 200 ≤ l.length := (by omega)
          refine RC.seq ?_
          refine RC.region rfl ?_
          refine RL.ev (.move rfl) rfl rfl ?_
          refine RL.ev (.as (v' := .agg #[.int .i64 5, .int .i64 0, .int .i64 0]) (.buildS ze39 pl39 rfl rfl) (by kernel_rfl)) rfl rfl ?_
          refine RL.ev (.as (v' := .agg #[.slice a l.length c, .int .i64 5, .int .i64 0, .int .i64 0]) (.buildS ze68 pl68 rfl rfl) (by kernel_rfl)) rfl rfl ?_
          refine RL.store sh68 rfl rfl rfl hb_4 (by exact Nat.le_of_ble_eq_true rfl) (by rfl) rfl (fun w12 z12 hb_4 a12 => ?_)
          have S := S.upd a12 ge_4
          have hb_3 := hb_3.upd a12 n_3__4
          have hb_9 := hb_9.upd a12 n_4__9.symm
          have hb_4 : Has w12 b_4 ([.slice a l.length c, .int .i64 5, .int .i64 0, .int .i64 0]) _ := hb_4.now (by kernel_rfl)
          refine RL.nil (RC.back ?_)
          refine RC.done (rs := [.cell 4 68]) (vs := [_]) rfl rfl ⟨⟨_, rfl, .inr ⟨[.slice a l.length c, .int .i64 5, .int .i64 0, .int .i64 0], sh68, hb_4.row, rfl⟩⟩, trivial⟩ ?_
          -- end 5
          have he : rowM l o = (l, ⟨5, 0, 0⟩) := (by rw [rowM, if_neg n12, if_pos (by omega), if_pos k44])
          rw [he]
          exact ⟨S, _, _, M, rfl, hc, hF.sub S, Up.refl _ _⟩
        ·
          have n44 : ¬ 200 ≤ l.length := (by omega)
          refine RC.skip (RC.back ?_)
          refine RC.cutx (α := Option Addr × Nat × List Int) (fun y_ => [(0, .slice a l.length c), (3, .pointer (some ⟨b_3, 0, none⟩)), (4, .pointer (some ⟨b_4, 0, none⟩)), (5, .int .i64 (l.length : Int)), (6, .slice y_.1 (y_.2.2.map fun x => [i6 x]).length y_.2.1)]) (fun y_ w13 => (y_.2.2 = if o.kind = 4 then [o.a] else []) ∧ Ows w.heap.size w13 2 1 (.slice y_.1 (y_.2.2.map fun x => [i6 x]).length y_.2.1) (y_.2.2.map fun x => [i6 x]) ∧ (∀ k, ob (.slice y_.1 (y_.2.2.map fun x => [i6 x]).length y_.2.1) = some k → k ≠ b_3) ∧ (∀ k, ob (.slice y_.1 (y_.2.2.map fun x => [i6 x]).length y_.2.1) = some k → k ≠ b_4) ∧ Has w13 b_3 o.cells 34 ∧ Has w13 b_4 [.slice none 0 0, .int .i64 0, .int .i64 0, .int .i64 0] 68 ∧ Sub w w13) ?_ (fun y_ w13 hJ => ?_)
          ·
            refine RC.seq ?_
            refine RC.region rfl ?_
            refine RL.ev (.field0 fo34_1 rfl) rfl rfl ?_
            refine RL.ev (.load1 sh3 rfl (hb_3.cell rfl)) rfl rfl ?_
            refine RL.ev (.bin rfl rfl rfl) rfl rfl ?_
            refine RL.nil (RC.back ?_)
            refine RC.cond_dec rfl (fun h14 => ?_) (fun h14 => ?_)
            ·
              have k50 : o.kind = 4 := h14
              refine RC.region rfl ?_
              refine RL.ev (.move rfl) rfl rfl ?_
              refine RL.ev (.field0 fo34_2 rfl) rfl rfl ?_
              refine RL.ev (.load1 sh2 rfl (hb_3.cell rfl)) rfl rfl ?_
              refine RL.buildSlice1 sl23 _ ze2 rfl rfl rfl rfl rfl rfl rfl (fun b_54 w_54 e_54 z_54 hb_54 s_54 => ?_)
              have ge_54 := S.le e_54
              have n_3__54 := hb_3.ne e_54
              have n_4__54 := hb_4.ne e_54
              have n_9__54 := hb_9.ne e_54
              have S := S.trans s_54
              have hb_3 := hb_3.sub s_54
              have hb_4 := hb_4.sub s_54
              have hb_9 := hb_9.sub s_54
              have sz_55 := S.size
              have ltb_3_55 := hb_3.lt
              have ltb_4_55 := hb_4.lt
              have ltb_9_55 := hb_9.lt
              have ltb_54_55 := hb_54.lt
              refine RL.append2 (base := w.heap.size) (rows := []) (news := [_]) sl23 ze2 rfl rfl rfl rfl (.inl (Ows.lit0 hb_9 (by omega))) (Has.slOne hb_54) rfl (by intro r hr; rw [List.mem_singleton] at hr; subst hr; rfl) rfl (by (try simp only [List.length_map, List.length_nil, List.length_append, List.length_cons]); omega) (by (try simp only [List.length_map, List.length_nil, List.length_append, List.length_cons]); omega) (by omega) rfl rfl (fun v_55 w_55 hc_55 ho_55 ag_55 ob_55 => ?_)
              have o55 := ho_55 (.inl (by simp))
              have d_o55_b_3 := obNe ob_55 (fun k hk e => n_3__9.symm ((obLit hk).trans e)) hb_3.lt
              have d_o55_b_4 := obNe ob_55 (fun k hk e => n_4__9.symm ((obLit hk).trans e)) hb_4.lt
              have S := S.agrN ag_55 (fun k e => Nat.le_trans (by omega) e.2)
              have hb_3 := hb_3.step ag_55 (fun e => n_3__9.symm (obLit e.1))
              have hb_4 := hb_4.step ag_55 (fun e => n_4__9.symm (obLit e.1))
              obtain ⟨a_55, c_55, rfl, k_55⟩ := o55.form
              refine RL.ev (.assign rfl) rfl rfl ?_
              exact RL.nil (fun a ka => ⟨(a_55, c_55, [o.a]), ⟨by rw [if_pos k50], o55, d_o55_b_3, d_o55_b_4, hb_3, hb_4, S⟩, ka.keep (keep_of (by repeat (first | exact trivial | refine And.intro rfl ?_)))⟩)
            ·
              have n50 : ¬ o.kind = 4 := h14
              exact RC.skip (fun a ka => ⟨(some ⟨b_9, 0, none⟩, 0, []), ⟨by rw [if_neg n50], Ows.lit0 hb_9 (by omega), (fun k hk e => n_3__9.symm ((obLit hk).trans e)), (fun k hk e => n_4__9.symm ((obLit hk).trans e)), hb_3, hb_4, S⟩, ka.keep (keep_of (by repeat (first | exact trivial | refine And.intro rfl ?_)))⟩)
          obtain ⟨a6, c6, R6⟩ := y_
          obtain ⟨hR6, o6, d63, d64, hb_3, hb_4, S⟩ := hJ
          simp only [] at hR6 o6 d63 d64
          have lR6 : R6.length ≤ 1 := (by rw [hR6]; split <;> simp)
          have szB := S.size
          refine RC.seq ?_
          refine RC.region rfl ?_
          refine RL.ev (.move rfl) rfl rfl ?_
          refine RL.ev (.move rfl) rfl rfl ?_
          have sz_58 := S.size
          have ltb_3_58 := hb_3.lt
          have ltb_4_58 := hb_4.lt
          refine RL.append2 (base := w.heap.size) (rows := R6.map fun x => [i6 x]) (news := l.map fun x => [i6 x]) sl23 ze2 rfl rfl rfl rfl (.inl o6) (hl.sub S) (by (try simp only [List.length_map]); first | done | rfl) (by intro r hr; obtain ⟨x, _, rfl⟩ := List.mem_map.1 hr; rfl) (by rw [List.all_eq_true]; intro r hr; obtain ⟨x, _, rfl⟩ := List.mem_map.1 hr; rfl) (by (try simp only [List.length_map, List.length_nil, List.length_append, List.length_cons]); omega) (by (try simp only [List.length_map, List.length_nil, List.length_append, List.length_cons]); omega) (by omega) rfl rfl (fun v_58 w_58 hc_58 ho_58 ag_58 ob_58 => ?_)
          have o58 := ho_58 (.inr o6)
          have d_o58_b_3 := obNe ob_58 d63 hb_3.lt
          have d_o58_b_4 := obNe ob_58 d64 hb_4.lt
          have S := S.agrN ag_58 (fun k e => Nat.le_trans (by omega) e.2)
          have hb_3 := hb_3.step ag_58 (fun e => d63 _ e.1 rfl)
          have hb_4 := hb_4.step ag_58 (fun e => d64 _ e.1 rfl)
          obtain ⟨a_58, c_58, rfl, k_58⟩ := o58.form
          rw [← List.map_append] at o58 d_o58_b_3 d_o58_b_4 ⊢
          obtain ⟨R8, hR8⟩ : ∃ R8, R8 = R6 ++ l := ⟨_, rfl⟩
          rw [← hR8] at o58 d_o58_b_3 d_o58_b_4 ⊢
          have lR8 : R8.length ≤ l.length + 1 := (by rw [hR8, List.length_append]; omega)
          refine RL.ev (.assign rfl) rfl rfl ?_
          refine RL.nil (RC.back ?_)
          refine RC.cutx (α := Option Addr × Nat × List Int) (fun y_ => [(0, .slice a l.length c), (3, .pointer (some ⟨b_3, 0, none⟩)), (4, .pointer (some ⟨b_4, 0, none⟩)), (6, .slice y_.1 (y_.2.2.map fun x => [i6 x]).length y_.2.1)]) (fun y_ w15 => (y_.2.2 = R8 ++ if o.kind = 2 then [o.a] else []) ∧ Ows w.heap.size w15 2 1 (.slice y_.1 (y_.2.2.map fun x => [i6 x]).length y_.2.1) (y_.2.2.map fun x => [i6 x]) ∧ (∀ k, ob (.slice y_.1 (y_.2.2.map fun x => [i6 x]).length y_.2.1) = some k → k ≠ b_4) ∧ Has w15 b_4 [.slice none 0 0, .int .i64 0, .int .i64 0, .int .i64 0] 68 ∧ Sub w w15) ?_ (fun y_ w15 hJ => ?_)
          ·
            refine RC.seq ?_
            refine RC.region rfl ?_
            refine RL.ev (.field0 fo34_1 rfl) rfl rfl ?_
            refine RL.ev (.load1 sh3 rfl (hb_3.cell rfl)) rfl rfl ?_
            refine RL.ev (.bin rfl rfl rfl) rfl rfl ?_
            refine RL.nil (RC.back ?_)
            refine RC.cond_dec rfl (fun h16 => ?_) (fun h16 => ?_)
            ·
              have k61 : o.kind = 2 := h16
              refine RC.region rfl ?_
              refine RL.ev (.move rfl) rfl rfl ?_
              refine RL.ev (.field0 fo34_2 rfl) rfl rfl ?_
              refine RL.ev (.load1 sh2 rfl (hb_3.cell rfl)) rfl rfl ?_
              refine RL.buildSlice1 sl23 _ ze2 rfl rfl rfl rfl rfl rfl rfl (fun b_65 w_65 e_65 z_65 hb_65 s_65 => ?_)
              have ge_65 := S.le e_65
              have n_3__65 := hb_3.ne e_65
              have n_4__65 := hb_4.ne e_65
              have d_o58_b_65 := o58.neNew e_65
              have S := S.trans s_65
              have hb_3 := hb_3.sub s_65
              have hb_4 := hb_4.sub s_65
              have o58 := o58.sub s_65
              have sz_66 := S.size
              have ltb_3_66 := hb_3.lt
              have ltb_4_66 := hb_4.lt
              have ltb_65_66 := hb_65.lt
              refine RL.append2 (base := w.heap.size) (rows := R8.map fun x => [i6 x]) (news := [_]) sl23 ze2 rfl rfl rfl rfl (.inl o58) (Has.slOne hb_65) rfl (by intro r hr; rw [List.mem_singleton] at hr; subst hr; rfl) rfl (by (try simp only [List.length_map, List.length_nil, List.length_append, List.length_cons]); omega) (by (try simp only [List.length_map, List.length_nil, List.length_append, List.length_cons]); omega) (by omega) rfl rfl (fun v_66 w_66 hc_66 ho_66 ag_66 ob_66 => ?_)
              have o66 := ho_66 (.inl (by simp))
              rw [show _ ++ [_] = ((R8 ++ [o.a]).map fun x => [i6 x]) from by rw [List.map_append]; rfl] at o66
              have d_o66_b_3 := obNe ob_66 d_o58_b_3 hb_3.lt
              have d_o66_b_4 := obNe ob_66 d_o58_b_4 hb_4.lt
              have S := S.agrN ag_66 (fun k e => Nat.le_trans (by omega) e.2)
              have hb_3 := hb_3.step ag_66 (fun e => d_o58_b_3 _ e.1 rfl)
              have hb_4 := hb_4.step ag_66 (fun e => d_o58_b_4 _ e.1 rfl)
              obtain ⟨a_66, c_66, rfl, k_66⟩ := o66.form
              refine RL.ev (.assign rfl) rfl rfl ?_
              exact RL.nil (fun a ka => ⟨(a_66, c_66, R8 ++ [o.a]), ⟨by rw [if_pos k61], o66, d_o66_b_4, hb_4, S⟩, ka.keep (keep_of (by repeat (first | exact trivial | refine And.intro rfl ?_)))⟩)
            ·
              have n61 : ¬ o.kind = 2 := h16
              exact RC.skip (fun a ka => ⟨(a_58, c_58, R8), ⟨by rw [if_neg n61, List.append_nil], o58, d_o58_b_4, hb_4, S⟩, ka.keep (keep_of (by repeat (first | exact trivial | refine And.intro rfl ?_)))⟩)
          obtain ⟨a7, c7, R7⟩ := y_
          obtain ⟨hR7, o7, d74, hb_4, S⟩ := hJ
          simp only [] at hR7 o7 d74
          refine RC.seq ?_
          refine RC.region rfl ?_
          refine RL.ev (.move rfl) rfl rfl ?_
          refine RL.ev (.as (v' := .agg #[.slice a7 (R7.map fun x => [i6 x]).length c7, .int .i64 0, .int .i64 0, .int .i64 0]) (.buildS ze68 pl68 rfl rfl) (by kernel_rfl)) rfl rfl ?_
          refine RL.store sh68 rfl rfl rfl hb_4 (by exact Nat.le_of_ble_eq_true rfl) (by rfl) rfl (fun w17 z17 hb_4 a17 => ?_)
          have S := S.upd a17 ge_4
          have o7 := o7.updD a17 d74
          have hb_4 : Has w17 b_4 ([.slice a7 (R7.map fun x => [i6 x]).length c7, .int .i64 0, .int .i64 0, .int .i64 0]) _ := hb_4.now (by kernel_rfl)
          refine RL.nil (RC.back ?_)
          refine RC.done (rs := [.cell 4 68]) (vs := [_]) rfl rfl ⟨⟨_, rfl, .inr ⟨[.slice a7 (R7.map fun x => [i6 x]).length c7, .int .i64 0, .int .i64 0, .int .i64 0], sh68, hb_4.row, rfl⟩⟩, trivial⟩ ?_
          -- end 6
          have he : rowM l o = (R7, ⟨0, 0, 0⟩) := (by rw [rowM, if_neg n12, if_pos (by omega), if_neg n44, hR7, hR8, hR6]; rcases (show o.kind = 2 ∨ o.kind = 4 by omega) with q | q <;> simp [q])
          obtain ⟨_, c9, e9, k9⟩ := o7.form
          cases e9
          rw [List.length_map] at k9
          rw [he]
          exact ⟨S, _, _, _, by rw [List.length_map]; rfl, k9, o7.ft.imp (fun u h => h.sl.1), fun k hk => .inr (o7.ge k hk).1⟩
      ·
        have n40 := h9
        refine RC.region rfl ?_
        refine RL.ev (.bin rfl rfl rfl) rfl rfl ?_
        refine RL.ev (.assign rfl) rfl rfl ?_
        refine RL.nil (RC.back ?_)
        refine RC.cond_dec rfl (fun h18 => ?_) (fun h18 => ?_)
        ·
          have k40 := h18
          refine RC.seq ?_
          refine RC.seq ?_
          refine RC.region rfl ?_
          refine RL.ev (.move rfl) rfl rfl ?_
          refine RL.ev (.bin rfl rfl rfl) rfl rfl ?_
          refine RL.nil (RC.back ?_)
          refine RC.cond_dec rfl (fun h19 => ?_) (fun h19 => ?_)
          ·
            have k44 : 200 ≤ l.length := (by omega)
            refine RC.seq ?_
            refine RC.region rfl ?_
            refine RL.ev (.move rfl) rfl rfl ?_
            refine RL.ev (.as (v' := .agg #[.int .i64 5, .int .i64 0, .int .i64 0]) (.buildS ze39 pl39 rfl rfl) (by kernel_rfl)) rfl rfl ?_
            refine RL.ev (.as (v' := .agg #[.slice a l.length c, .int .i64 5, .int .i64 0, .int .i64 0]) (.buildS ze68 pl68 rfl rfl) (by kernel_rfl)) rfl rfl ?_
            refine RL.store sh68 rfl rfl rfl hb_4 (by exact Nat.le_of_ble_eq_true rfl) (by rfl) rfl (fun w20 z20 hb_4 a20 => ?_)
            have S := S.upd a20 ge_4
            have hb_3 := hb_3.upd a20 n_3__4
            have hb_9 := hb_9.upd a20 n_4__9.symm
            have hb_4 : Has w20 b_4 ([.slice a l.length c, .int .i64 5, .int .i64 0, .int .i64 0]) _ := hb_4.now (by kernel_rfl)
            refine RL.nil (RC.back ?_)
            refine RC.done (rs := [.cell 4 68]) (vs := [_]) rfl rfl ⟨⟨_, rfl, .inr ⟨[.slice a l.length c, .int .i64 5, .int .i64 0, .int .i64 0], sh68, hb_4.row, rfl⟩⟩, trivial⟩ ?_
            -- end 7
            have he : rowM l o = (l, ⟨5, 0, 0⟩) := (by rw [rowM, if_neg n12, if_pos (by omega), if_pos k44])
            rw [he]
            exact ⟨S, _, _, M, rfl, hc, hF.sub S, Up.refl _ _⟩
          ·
            have n44 : ¬ 200 ≤ l.length := (by omega)
            refine RC.skip (RC.back ?_)
            refine RC.cutx (α := Option Addr × Nat × List Int) (fun y_ => [(0, .slice a l.length c), (3, .pointer (some ⟨b_3, 0, none⟩)), (4, .pointer (some ⟨b_4, 0, none⟩)), (5, .int .i64 (l.length : Int)), (6, .slice y_.1 (y_.2.2.map fun x => [i6 x]).length y_.2.1)]) (fun y_ w21 => (y_.2.2 = if o.kind = 4 then [o.a] else []) ∧ Ows w.heap.size w21 2 1 (.slice y_.1 (y_.2.2.map fun x => [i6 x]).length y_.2.1) (y_.2.2.map fun x => [i6 x]) ∧ (∀ k, ob (.slice y_.1 (y_.2.2.map fun x => [i6 x]).length y_.2.1) = some k → k ≠ b_3) ∧ (∀ k, ob (.slice y_.1 (y_.2.2.map fun x => [i6 x]).length y_.2.1) = some k → k ≠ b_4) ∧ Has w21 b_3 o.cells 34 ∧ Has w21 b_4 [.slice none 0 0, .int .i64 0, .int .i64 0, .int .i64 0] 68 ∧ Sub w w21) ?_ (fun y_ w21 hJ => ?_)
            ·
              refine RC.seq ?_
              refine RC.region rfl ?_
              refine RL.ev (.field0 fo34_1 rfl) rfl rfl ?_
              refine RL.ev (.load1 sh3 rfl (hb_3.cell rfl)) rfl rfl ?_
              refine RL.ev (.bin rfl rfl rfl) rfl rfl ?_
              refine RL.nil (RC.back ?_)
              refine RC.cond_dec rfl (fun h22 => ?_) (fun h22 => ?_)
              ·
                have k50 : o.kind = 4 := h22
                refine RC.region rfl ?_
                refine RL.ev (.move rfl) rfl rfl ?_
                refine RL.ev (.field0 fo34_2 rfl) rfl rfl ?_
                refine RL.ev (.load1 sh2 rfl (hb_3.cell rfl)) rfl rfl ?_
                refine RL.buildSlice1 sl23 _ ze2 rfl rfl rfl rfl rfl rfl rfl (fun b_54 w_54 e_54 z_54 hb_54 s_54 => ?_)
                have ge_54 := S.le e_54
                have n_3__54 := hb_3.ne e_54
                have n_4__54 := hb_4.ne e_54
                have n_9__54 := hb_9.ne e_54
                have S := S.trans s_54
                have hb_3 := hb_3.sub s_54
                have hb_4 := hb_4.sub s_54
                have hb_9 := hb_9.sub s_54
                have sz_55 := S.size
                have ltb_3_55 := hb_3.lt
                have ltb_4_55 := hb_4.lt
                have ltb_9_55 := hb_9.lt
                have ltb_54_55 := hb_54.lt
                refine RL.append2 (base := w.heap.size) (rows := []) (news := [_]) sl23 ze2 rfl rfl rfl rfl (.inl (Ows.lit0 hb_9 (by omega))) (Has.slOne hb_54) rfl (by intro r hr; rw [List.mem_singleton] at hr; subst hr; rfl) rfl (by (try simp only [List.length_map, List.length_nil, List.length_append, List.length_cons]); omega) (by (try simp only [List.length_map, List.length_nil, List.length_append, List.length_cons]); omega) (by omega) rfl rfl (fun v_55 w_55 hc_55 ho_55 ag_55 ob_55 => ?_)
                have o55 := ho_55 (.inl (by simp))
                have d_o55_b_3 := obNe ob_55 (fun k hk e => n_3__9.symm ((obLit hk).trans e)) hb_3.lt
                have d_o55_b_4 := obNe ob_55 (fun k hk e => n_4__9.symm ((obLit hk).trans e)) hb_4.lt
                have S := S.agrN ag_55 (fun k e => Nat.le_trans (by omega) e.2)
                have hb_3 := hb_3.step ag_55 (fun e => n_3__9.symm (obLit e.1))
                have hb_4 := hb_4.step ag_55 (fun e => n_4__9.symm (obLit e.1))
                obtain ⟨a_55, c_55, rfl, k_55⟩ := o55.form
                refine RL.ev (.assign rfl) rfl rfl ?_
                exact RL.nil (fun a ka => ⟨(a_55, c_55, [o.a]), ⟨by rw [if_pos k50], o55, d_o55_b_3, d_o55_b_4, hb_3, hb_4, S⟩, ka.keep (keep_of (by repeat (first | exact trivial | refine And.intro rfl ?_)))⟩)
              ·
                have n50 : ¬ o.kind = 4 := h22
                exact RC.skip (fun a ka => ⟨(some ⟨b_9, 0, none⟩, 0, []), ⟨by rw [if_neg n50], Ows.lit0 hb_9 (by omega), (fun k hk e => n_3__9.symm ((obLit hk).trans e)), (fun k hk e => n_4__9.symm ((obLit hk).trans e)), hb_3, hb_4, S⟩, ka.keep (keep_of (by repeat (first | exact trivial | refine And.intro rfl ?_)))⟩)
            obtain ⟨a6, c6, R6⟩ := y_
            obtain ⟨hR6, o6, d63, d64, hb_3, hb_4, S⟩ := hJ
            simp only [] at hR6 o6 d63 d64
            have lR6 : R6.length ≤ 1 := (by rw [hR6]; split <;> simp)
            have szB := S.size
            refine RC.seq ?_
            refine RC.region rfl ?_
            refine RL.ev (.move rfl) rfl rfl ?_
            refine RL.ev (.move rfl) rfl rfl ?_
            have sz_58 := S.size
            have ltb_3_58 := hb_3.lt
            have ltb_4_58 := hb_4.lt
            refine RL.append2 (base := w.heap.size) (rows := R6.map fun x => [i6 x]) (news := l.map fun x => [i6 x]) sl23 ze2 rfl rfl rfl rfl (.inl o6) (hl.sub S) (by (try simp only [List.length_map]); first | done | rfl) (by intro r hr; obtain ⟨x, _, rfl⟩ := List.mem_map.1 hr; rfl) (by rw [List.all_eq_true]; intro r hr; obtain ⟨x, _, rfl⟩ := List.mem_map.1 hr; rfl) (by (try simp only [List.length_map, List.length_nil, List.length_append, List.length_cons]); omega) (by (try simp only [List.length_map, List.length_nil, List.length_append, List.length_cons]); omega) (by omega) rfl rfl (fun v_58 w_58 hc_58 ho_58 ag_58 ob_58 => ?_)
            have o58 := ho_58 (.inr o6)
            have d_o58_b_3 := obNe ob_58 d63 hb_3.lt
            have d_o58_b_4 := obNe ob_58 d64 hb_4.lt
            have S := S.agrN ag_58 (fun k e => Nat.le_trans (by omega) e.2)
            have hb_3 := hb_3.step ag_58 (fun e => d63 _ e.1 rfl)
            have hb_4 := hb_4.step ag_58 (fun e => d64 _ e.1 rfl)
            obtain ⟨a_58, c_58, rfl, k_58⟩ := o58.form
            rw [← List.map_append] at o58 d_o58_b_3 d_o58_b_4 ⊢
            obtain ⟨R8, hR8⟩ : ∃ R8, R8 = R6 ++ l := ⟨_, rfl⟩
            rw [← hR8] at o58 d_o58_b_3 d_o58_b_4 ⊢
            have lR8 : R8.length ≤ l.length + 1 := (by rw [hR8, List.length_append]; omega)
            refine RL.ev (.assign rfl) rfl rfl ?_
            refine RL.nil (RC.back ?_)
            refine RC.cutx (α := Option Addr × Nat × List Int) (fun y_ => [(0, .slice a l.length c), (3, .pointer (some ⟨b_3, 0, none⟩)), (4, .pointer (some ⟨b_4, 0, none⟩)), (6, .slice y_.1 (y_.2.2.map fun x => [i6 x]).length y_.2.1)]) (fun y_ w23 => (y_.2.2 = R8 ++ if o.kind = 2 then [o.a] else []) ∧ Ows w.heap.size w23 2 1 (.slice y_.1 (y_.2.2.map fun x => [i6 x]).length y_.2.1) (y_.2.2.map fun x => [i6 x]) ∧ (∀ k, ob (.slice y_.1 (y_.2.2.map fun x => [i6 x]).length y_.2.1) = some k → k ≠ b_4) ∧ Has w23 b_4 [.slice none 0 0, .int .i64 0, .int .i64 0, .int .i64 0] 68 ∧ Sub w w23) ?_ (fun y_ w23 hJ => ?_)
            ·
              refine RC.seq ?_
              refine RC.region rfl ?_
              refine RL.ev (.field0 fo34_1 rfl) rfl rfl ?_
              refine RL.ev (.load1 sh3 rfl (hb_3.cell rfl)) rfl rfl ?_
              refine RL.ev (.bin rfl rfl rfl) rfl rfl ?_
              refine RL.nil (RC.back ?_)
              refine RC.cond_dec rfl (fun h24 => ?_) (fun h24 => ?_)
              ·
                have k61 : o.kind = 2 := h24
                refine RC.region rfl ?_
                refine RL.ev (.move rfl) rfl rfl ?_
                refine RL.ev (.field0 fo34_2 rfl) rfl rfl ?_
                refine RL.ev (.load1 sh2 rfl (hb_3.cell rfl)) rfl rfl ?_
                refine RL.buildSlice1 sl23 _ ze2 rfl rfl rfl rfl rfl rfl rfl (fun b_65 w_65 e_65 z_65 hb_65 s_65 => ?_)
                have ge_65 := S.le e_65
                have n_3__65 := hb_3.ne e_65
                have n_4__65 := hb_4.ne e_65
                have d_o58_b_65 := o58.neNew e_65
                have S := S.trans s_65
                have hb_3 := hb_3.sub s_65
                have hb_4 := hb_4.sub s_65
                have o58 := o58.sub s_65
                have sz_66 := S.size
                have ltb_3_66 := hb_3.lt
                have ltb_4_66 := hb_4.lt
                have ltb_65_66 := hb_65.lt
                refine RL.append2 (base := w.heap.size) (rows := R8.map fun x => [i6 x]) (news := [_]) sl23 ze2 rfl rfl rfl rfl (.inl o58) (Has.slOne hb_65) rfl (by intro r hr; rw [List.mem_singleton] at hr; subst hr; rfl) rfl (by (try simp only [List.length_map, List.length_nil, List.length_append, List.length_cons]); omega) (by (try simp only [List.length_map, List.length_nil, List.length_append, List.length_cons]); omega) (by omega) rfl rfl (fun v_66 w_66 hc_66 ho_66 ag_66 ob_66 => ?_)
                have o66 := ho_66 (.inl (by simp))
                rw [show _ ++ [_] = ((R8 ++ [o.a]).map fun x => [i6 x]) from by rw [List.map_append]; rfl] at o66
                have d_o66_b_3 := obNe ob_66 d_o58_b_3 hb_3.lt
                have d_o66_b_4 := obNe ob_66 d_o58_b_4 hb_4.lt
                have S := S.agrN ag_66 (fun k e => Nat.le_trans (by omega) e.2)
                have hb_3 := hb_3.step ag_66 (fun e => d_o58_b_3 _ e.1 rfl)
                have hb_4 := hb_4.step ag_66 (fun e => d_o58_b_4 _ e.1 rfl)
                obtain ⟨a_66, c_66, rfl, k_66⟩ := o66.form
                refine RL.ev (.assign rfl) rfl rfl ?_
                exact RL.nil (fun a ka => ⟨(a_66, c_66, R8 ++ [o.a]), ⟨by rw [if_pos k61], o66, d_o66_b_4, hb_4, S⟩, ka.keep (keep_of (by repeat (first | exact trivial | refine And.intro rfl ?_)))⟩)
              ·
                have n61 : ¬ o.kind = 2 := h24
                exact RC.skip (fun a ka => ⟨(a_58, c_58, R8), ⟨by rw [if_neg n61, List.append_nil], o58, d_o58_b_4, hb_4, S⟩, ka.keep (keep_of (by repeat (first | exact trivial | refine And.intro rfl ?_)))⟩)
            obtain ⟨a7, c7, R7⟩ := y_
            obtain ⟨hR7, o7, d74, hb_4, S⟩ := hJ
            simp only [] at hR7 o7 d74
            refine RC.seq ?_
            refine RC.region rfl ?_
            refine RL.ev (.move rfl) rfl rfl ?_
            refine RL.ev (.as (v' := .agg #[.slice a7 (R7.map fun x => [i6 x]).length c7, .int .i64 0, .int .i64 0, .int .i64 0]) (.buildS ze68 pl68 rfl rfl) (by kernel_rfl)) rfl rfl ?_
            refine RL.store sh68 rfl rfl rfl hb_4 (by exact Nat.le_of_ble_eq_true rfl) (by rfl) rfl (fun w25 z25 hb_4 a25 => ?_)
            have S := S.upd a25 ge_4
            have o7 := o7.updD a25 d74
            have hb_4 : Has w25 b_4 ([.slice a7 (R7.map fun x => [i6 x]).length c7, .int .i64 0, .int .i64 0, .int .i64 0]) _ := hb_4.now (by kernel_rfl)
            refine RL.nil (RC.back ?_)
            refine RC.done (rs := [.cell 4 68]) (vs := [_]) rfl rfl ⟨⟨_, rfl, .inr ⟨[.slice a7 (R7.map fun x => [i6 x]).length c7, .int .i64 0, .int .i64 0, .int .i64 0], sh68, hb_4.row, rfl⟩⟩, trivial⟩ ?_
            -- end 8
            have he : rowM l o = (R7, ⟨0, 0, 0⟩) := (by rw [rowM, if_neg n12, if_pos (by omega), if_neg n44, hR7, hR8, hR6]; rcases (show o.kind = 2 ∨ o.kind = 4 by omega) with q | q <;> simp [q])
            obtain ⟨_, c9, e9, k9⟩ := o7.form
            cases e9
            rw [List.length_map] at k9
            rw [he]
            exact ⟨S, _, _, _, by rw [List.length_map]; rfl, k9, o7.ft.imp (fun u h => h.sl.1), fun k hk => .inr (o7.ge k hk).1⟩
        ·
          have n40 := h18
          refine RC.skip (RC.back ?_)
          refine RC.seq ?_
          refine RC.seq ?_
          refine RC.region rfl ?_
          refine RL.ev (.move rfl) rfl rfl ?_
          refine RL.ev (.bin rfl rfl rfl) rfl rfl ?_
          refine RL.nil (RC.back ?_)
          refine RC.cond_dec rfl (fun h26 => ?_) (fun h26 => ?_)
          ·
            have k70 : l.length = 0 := (by omega)
            refine RC.seq ?_
            refine RC.region rfl ?_
            refine RL.ev (.move rfl) rfl rfl ?_
            refine RL.ev (.as (v' := .agg #[.int .i64 3, .int .i64 0, .int .i64 0]) (.buildS ze39 pl39 rfl rfl) (by kernel_rfl)) rfl rfl ?_
            refine RL.ev (.as (v' := .agg #[.slice a l.length c, .int .i64 3, .int .i64 0, .int .i64 0]) (.buildS ze68 pl68 rfl rfl) (by kernel_rfl)) rfl rfl ?_
            refine RL.store sh68 rfl rfl rfl hb_4 (by exact Nat.le_of_ble_eq_true rfl) (by rfl) rfl (fun w27 z27 hb_4 a27 => ?_)
            have S := S.upd a27 ge_4
            have hb_3 := hb_3.upd a27 n_3__4
            have hb_9 := hb_9.upd a27 n_4__9.symm
            have hb_4 : Has w27 b_4 ([.slice a l.length c, .int .i64 3, .int .i64 0, .int .i64 0]) _ := hb_4.now (by kernel_rfl)
            refine RL.nil (RC.back ?_)
            refine RC.done (rs := [.cell 4 68]) (vs := [_]) rfl rfl ⟨⟨_, rfl, .inr ⟨[.slice a l.length c, .int .i64 3, .int .i64 0, .int .i64 0], sh68, hb_4.row, rfl⟩⟩, trivial⟩ ?_
            -- end 9
            have he : rowM l o = (l, ⟨3, 0, 0⟩) := (by rw [rowM, if_neg n12, if_neg (by omega), if_neg n18, if_pos k70])
            rw [he]
            exact ⟨S, _, _, M, rfl, hc, hF.sub S, Up.refl _ _⟩
          ·
            have n70 : 0 < l.length := (by omega)
            obtain ⟨x, hx⟩ := getSome (l := l) (i := l.length - 1) (by omega)
            have hxd := getD_of hx
            obtain ⟨y, hy⟩ := getSome (l := l) (i := 0) n70
            have hyd := getD_of hy
            refine RC.skip (RC.back ?_)
            refine RC.seq ?_
            refine RC.seq ?_
            refine RC.region rfl ?_
            refine RL.ev (.field0 fo34_1 rfl) rfl rfl ?_
            refine RL.ev (.load1 sh3 rfl (hb_3.cell rfl)) rfl rfl ?_
            refine RL.ev (.bin rfl rfl rfl) rfl rfl ?_
            refine RL.nil (RC.back ?_)
            refine RC.cond_dec rfl (fun h28 => ?_) (fun h28 => ?_)
            ·
              have k76 := h28
              refine RC.seq ?_
              refine RC.drawD (fun k => k = b_4) [11] w_9.heap.size 12 rfl rfl mxo (fun w29 s30 => ?_)
              have hNN : ∀ k, ((k = b_4) ∨ w_9.heap.size ≤ k) → w.heap.size ≤ k := fun k e => e.elim (fun e => e ▸ ge_4) (fun e => Nat.le_trans S.size e)
              have ent_S := S.size
              have hN0 : ∀ k, w_9.heap.size ≤ k → w.heap.size ≤ k := fun k e => Nat.le_trans S.size e
              have ltD_b_3 := hb_3.lt
              have ltD_b_4 := hb_4.lt
              have ltD_b_9 := hb_9.lt
              have szD := Nat.le_refl w_9.heap.size
              have S := S.trans s30
              have hb_3 := hb_3.sub s30
              have hb_4 := hb_4.sub s30
              have hb_9 := hb_9.sub s30
              have szD := Nat.le_trans szD s30.size
              refine RD.take 0 rfl (by kernel_rfl) (by kernel_rfl) (by kernel_rfl) (fun w' s' => .move rfl) rfl rfl ?_
              refine RD.take 1 rfl (by kernel_rfl) (by kernel_rfl) (by kernel_rfl) (fun w' s' => .move rfl) rfl rfl ?_
              refine RD.take 2 rfl (by kernel_rfl) (by kernel_rfl) (by kernel_rfl) (fun w' s' => .as (.bin rfl rfl rfl) (wi64 (y := ((l.length - 1 : Nat) : Int)) (by omega) (by omega))) rfl rfl ?_
              refine RD.take 3 rfl (by kernel_rfl) (by kernel_rfl) (by kernel_rfl) (fun w' s' => .as (v' := .slice a (l.take (l.length - 1)).length c) (.sliceHi sl23 rfl rfl (by omega)) (by rw [List.length_take, Nat.min_eq_left (by omega)]; rfl)) rfl rfl ?_
              refine RD.take 4 rfl (by kernel_rfl) (by kernel_rfl) (by kernel_rfl) (fun w' s' => .move rfl) rfl rfl ?_
              refine RD.take 5 rfl (by kernel_rfl) (by kernel_rfl) (by kernel_rfl) (fun w' s' => .move rfl) rfl rfl ?_
              refine RD.take 6 rfl (by kernel_rfl) (by kernel_rfl) (by kernel_rfl) (fun w' s' => .as (.bin rfl rfl rfl) (wi64 (y := ((l.length - 1 : Nat) : Int)) (by omega) (by omega))) rfl rfl ?_
              refine RD.take 7 rfl (by kernel_rfl) (by kernel_rfl) (by kernel_rfl) (fun w' s' => .indexS sl23 rfl rfl (by omega) (hl.is (i := 0) (by simp only [List.length_map, List.length_cons, List.length_nil]; omega))) rfl rfl ?_
              refine RD.take 8 rfl (by kernel_rfl) (by kernel_rfl) (by kernel_rfl) (fun w' s' => .load1 sh2 rfl ((hl.sub (S.agrN s' hNN)).one (enc := i6) (i := l.length - 1) hx)) rfl rfl ?_
              refine RD.take 9 rfl (by kernel_rfl) (by kernel_rfl) (by kernel_rfl) (fun w' s' => .as (v' := .agg #[.int .i64 0, .int .i64 x, .int .i64 0]) (.buildS ze39 pl39 rfl rfl) (by kernel_rfl)) rfl rfl ?_
              refine RD.take 10 rfl (by kernel_rfl) (by kernel_rfl) (by kernel_rfl) (fun w' s' => .as (v' := .agg #[.slice a (l.take (l.length - 1)).length c, .int .i64 0, .int .i64 x, .int .i64 0]) (.buildS ze68 pl68 rfl rfl) (by kernel_rfl)) rfl rfl ?_
              refine RD.all [11] (by kernel_rfl) rfl (RDs.cons rfl ?_ (RDs.nil))
              refine RL.store sh68 rfl rfl rfl hb_4 (by exact Nat.le_of_ble_eq_true rfl) (by rfl) rfl (fun w31 z31 hb_4 a31 => ?_)
              have S := S.upd a31 ge_4
              have hb_3 := hb_3.upd a31 n_3__4
              have hb_9 := hb_9.upd a31 n_4__9.symm
              have szD := Nat.le_trans szD a31.size
              have hb_4 : Has w31 b_4 ([.slice a (l.take (l.length - 1)).length c, .int .i64 0, .int .i64 x, .int .i64 0]) _ := hb_4.now (by kernel_rfl)
              refine RD.backW rfl (a31.mono fun k _ e => e ▸ (.inl (rfl))) ?_
              refine RD.done (by kernel_rfl) (RC.back ?_)
              refine RC.done (rs := [.cell 4 68]) (vs := [_]) rfl rfl ⟨⟨_, rfl, .inr ⟨[.slice a (l.take (l.length - 1)).length c, .int .i64 0, .int .i64 x, .int .i64 0], sh68, hb_4.row, rfl⟩⟩, trivial⟩ ?_
              -- end 10
              have he : rowM l o = (l.take (l.length - 1), ⟨0, x, 0⟩) := (by rw [rowM, if_neg n12, if_neg (by omega), if_neg n18, if_neg (by omega), if_pos k76, hxd])
              rw [he]
              exact ⟨S, _, _, M, rfl, by rw [List.length_take]; omega, (hF.sub S).imp (fun u h => slTakeM h _), Up.refl _ _⟩
            ·
              have n76 := h28
              refine RC.skip (RC.back ?_)
              refine RC.seq ?_
              refine RC.drawD (fun k => k = b_4) [7] w_9.heap.size 8 rfl rfl mxo (fun w32 s33 => ?_)
              have hNN : ∀ k, ((k = b_4) ∨ w_9.heap.size ≤ k) → w.heap.size ≤ k := fun k e => e.elim (fun e => e ▸ ge_4) (fun e => Nat.le_trans S.size e)
              have ent_S := S.size
              have hN0 : ∀ k, w_9.heap.size ≤ k → w.heap.size ≤ k := fun k e => Nat.le_trans S.size e
              have ltD_b_3 := hb_3.lt
              have ltD_b_4 := hb_4.lt
              have ltD_b_9 := hb_9.lt
              have szD := Nat.le_refl w_9.heap.size
              have S := S.trans s33
              have hb_3 := hb_3.sub s33
              have hb_4 := hb_4.sub s33
              have hb_9 := hb_9.sub s33
              have szD := Nat.le_trans szD s33.size
              refine RD.take 0 rfl (by kernel_rfl) (by kernel_rfl) (by kernel_rfl) (fun w' s' => .move rfl) rfl rfl ?_
              refine RD.take 1 rfl (by kernel_rfl) (by kernel_rfl) (by kernel_rfl) (fun w' s' => .as (v' := .slice (if c = 1 then a else a.map (·.add (1 * 1))) (l.drop 1).length (c - 1)) (.sliceLo sl23 rfl rfl (by omega)) (by rw [List.length_drop]; rfl)) rfl rfl ?_
              refine RD.take 2 rfl (by kernel_rfl) (by kernel_rfl) (by kernel_rfl) (fun w' s' => .move rfl) rfl rfl ?_
              refine RD.take 3 rfl (by kernel_rfl) (by kernel_rfl) (by kernel_rfl) (fun w' s' => .indexS sl23 rfl rfl (by omega) (hl.is (i := 0) (by simp only [List.length_map, List.length_cons, List.length_nil]; omega))) rfl rfl ?_
              refine RD.take 4 rfl (by kernel_rfl) (by kernel_rfl) (by kernel_rfl) (fun w' s' => .load1 sh2 rfl ((hl.sub (S.agrN s' hNN)).one (enc := i6) (i := 0) hy)) rfl rfl ?_
              refine RD.take 5 rfl (by kernel_rfl) (by kernel_rfl) (by kernel_rfl) (fun w' s' => .as (v' := .agg #[.int .i64 0, .int .i64 y, .int .i64 0]) (.buildS ze39 pl39 rfl rfl) (by kernel_rfl)) rfl rfl ?_
              refine RD.take 6 rfl (by kernel_rfl) (by kernel_rfl) (by kernel_rfl) (fun w' s' => .as (v' := .agg #[.slice (if c = 1 then a else a.map (·.add (1 * 1))) (l.drop 1).length (c - 1), .int .i64 0, .int .i64 y, .int .i64 0]) (.buildS ze68 pl68 rfl rfl) (by kernel_rfl)) rfl rfl ?_
              refine RD.all [7] (by kernel_rfl) rfl (RDs.cons rfl ?_ (RDs.nil))
              refine RL.store sh68 rfl rfl rfl hb_4 (by exact Nat.le_of_ble_eq_true rfl) (by rfl) rfl (fun w34 z34 hb_4 a34 => ?_)
              have S := S.upd a34 ge_4
              have hb_3 := hb_3.upd a34 n_3__4
              have hb_9 := hb_9.upd a34 n_4__9.symm
              have szD := Nat.le_trans szD a34.size
              have hb_4 : Has w34 b_4 ([.slice (if c = 1 then a else a.map (·.add (1 * 1))) (l.drop 1).length (c - 1), .int .i64 0, .int .i64 y, .int .i64 0]) _ := hb_4.now (by kernel_rfl)
              refine RD.backW rfl (a34.mono fun k _ e => e ▸ (.inl (rfl))) ?_
              refine RD.done (by kernel_rfl) (RC.back ?_)
              refine RC.done (rs := [.cell 4 68]) (vs := [_]) rfl rfl ⟨⟨_, rfl, .inr ⟨[.slice (if c = 1 then a else a.map (·.add (1 * 1))) (l.drop 1).length (c - 1), .int .i64 0, .int .i64 y, .int .i64 0], sh68, hb_4.row, rfl⟩⟩, trivial⟩ ?_
              -- end 11
              have he : rowM l o = (l.drop 1, ⟨0, y, 0⟩) := (by rw [rowM, if_neg n12, if_neg (by omega), if_neg n18, if_neg (by omega), if_neg n76, hyd])
              rw [he]
              exact ⟨S, _, _, M, rfl, by rw [List.length_drop]; show _ ≤ c - 1; omega, (hF.sub S).imp (fun u h => slDropM h 1 hc), Up.refl _ _⟩
end Go.Proofs.Ytjafbffehmombaa
