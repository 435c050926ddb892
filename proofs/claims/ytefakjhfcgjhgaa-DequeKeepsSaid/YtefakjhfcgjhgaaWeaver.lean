/-
  The weaver's methods, walked: get, make, merge, cut, may.
-/
import Derived.Test.YtefakjhfcgjhgaaDequeM
import Derived.Test.YtefakjhfcgjhgaaRange
set_option linter.unusedVariables false
set_option linter.unusedSimpArgs false
namespace Go.Proofs.Ytefakjhfcgjhgaa
open Go Go.XL

abbrev Wo (b : Nat) (s : St) (C : Nat → Prop) (u : World) : Prop := FoG 84 b s C u
theorem c_wget (b : Nat) (s : St) (C : Nat → Prop) (r : Int) (hr : U64 r) (w : World) (hF : Ft C (Wo b s C) w) :
    FC Try.prog 30 [.pointer (some ⟨b, 0, none⟩), .int .u64 r] w (Val (getN s.1 r).val w) := by
  obtain ⟨hCb, na, fa, nc, fc, M, hbf, hnc, hfc, hA, hMb, hMC⟩ := hF.now
  obtain ⟨e, hgv⟩ := getN_v s.1 r
  have hA := hA.now
  refine FC.intro Try.func30 rfl Try.ntmps30 rfl ?_
  have S := Sub.refl w
  refine RC.seq ?_
  refine RC.region rfl ?_
  refine RL.alloc ze73 rfl rfl (fun b_4 w_4 e_4 z_4 hb_4 s_4 => ?_)
  have ge_4 := S.le e_4
  have n__4 := hbf.ne e_4
  have S := S.trans s_4
  have hbf := hbf.sub s_4
  refine RL.nil (RC.back ?_)
  refine RC.seq ?_
  refine RC.region rfl ?_
  refine RL.ev (.move rfl) rfl rfl ?_
  refine RL.ev (.nilCheck rfl) rfl rfl ?_
  refine RL.ev (.field0 fo84_0 rfl) rfl rfl ?_
  refine RL.ev (.loadR (wvA na fa nc fc s.1) sh26 rfl (row_pref (xs := wvA na fa nc fc s.1) (ys := [.int .i64 s.2]) hbf) rfl) rfl rfl ?_
  refine RL.ev (.move rfl) rfl rfl ?_
  refine RL.call rfl ok43 (c_aGet s.1 na fa nc fc r hr w_4 (hA.sub S)) rfl rfl ?_
  rintro _ w1 ⟨rfl, s2⟩
  have S := S.trans s2
  have hbf := hbf.sub s2
  have hb_4 := hb_4.sub s2
  refine RL.ev (.as (v' := .tuple #[(getN s.1 r).val, .int .i64 e]) (.move rfl) (by rw [hgv])) rfl rfl ?_
  refine RL.ev (.extract rfl rfl) rfl rfl ?_
  refine RL.ev (.extract rfl rfl) rfl rfl ?_
  refine RL.alloc ze73 rfl rfl (fun b_5 w_5 e_5 z_5 hb_5 s_5 => ?_)
  have ge_5 := S.le e_5
  have n__5 := hbf.ne e_5
  have n_4__5 := hb_4.ne e_5
  have S := S.trans s_5
  have hbf := hbf.sub s_5
  have hb_4 := hb_4.sub s_5
  refine RL.store sh73 rfl rfl rfl hb_5 (by exact Nat.le_of_ble_eq_true rfl) (by rfl) rfl (fun w3 z3 hb_5 a3 => ?_)
  have S := S.upd a3 ge_5
  have hbf := hbf.upd a3 n__5
  have hb_4 := hb_4.upd a3 n_4__5
  have hb_5 : Has w3 b_5 ((getN s.1 r).cells) _ := hb_5.now (by kernel_rfl)
  refine RL.ev (.assign rfl) rfl rfl ?_
  refine RL.nil (RC.back ?_)
  refine RC.seq ?_
  refine RC.region rfl ?_
  refine RL.ev (.loadR ((getN s.1 r).cells) sh73 rfl hb_5.row rfl) rfl rfl ?_
  refine RL.store sh73 rfl rfl rfl hb_4 (by exact Nat.le_of_ble_eq_true rfl) (by rfl) rfl (fun w4 z4 hb_4 a4 => ?_)
  have S := S.upd a4 ge_4
  have hbf := hbf.upd a4 n__4
  have hb_5 := hb_5.upd a4 n_4__5.symm
  have hb_4 : Has w4 b_4 ((getN s.1 r).cells) _ := hb_4.now (by kernel_rfl)
  refine RL.nil (RC.back ?_)
  refine RC.done (rs := [.cell 4 73]) (vs := [_]) rfl rfl ⟨⟨_, rfl, .inr ⟨(getN s.1 r).cells, sh73, hb_4.row, rfl⟩⟩, trivial⟩ ?_
  -- end 1
  exact ⟨rfl, S⟩
theorem wN_ok {A : Ar} {v x y : Int} (hv : I64 v) (hx : U64 x) (hy : U64 y) : (wN A v x y).ok := by
  have hz : U64 0 := by unfold U64; decide
  have hi : I64 0 := by unfold I64; decide
  refine ⟨by unfold I64; show _ ≤ (5 : Int) ∧ (5 : Int) ≤ _; omega, hi, hi, hv, by unfold I64; show _ ≤ IntKind.i64.wrap _ ∧ IntKind.i64.wrap _ ≤ _; rw [IntKind.wrap_i64]; omega, ?_, hi, hi⟩
  intro k hk
  simp only [wN, rNode, Node.kids, List.mem_cons, List.not_mem_nil, or_false] at hk
  rcases hk with rfl | rfl | rfl | rfl | rfl | rfl | rfl | rfl | rfl <;> assumption
theorem c_wmake (bf : Nat) (s : St) (C : Nat → Prop) (v x y : Int) (hv : I64 v) (hx : U64 x) (hy : U64 y) (w : World) (hF : Ft C (Wo bf s C) w) :
    FC Try.prog 32 [.pointer (some ⟨bf, 0, none⟩), .int .i64 v, .int .u64 x, .int .u64 y] w (fun u w' => ∃ s' r C', u = .int .u64 r ∧ MkX s (wN s.1 v x y) s' r ∧ Ft C' (Wo bf s' C') w' ∧ Agr (· = bf) w w' ∧ Up C w C') := by
  obtain ⟨hCb, na, fa, nc, fc, M, hbf, hnc, hfc, hA, hMb, hMC⟩ := hF.now
  obtain ⟨A, bad⟩ := s
  simp only [] at hbf hnc hfc hA
  have dA : ∀ k, M k → k ≠ bf := fun k hk e => hMb (e ▸ hk)
  refine FC.intro Try.func32 rfl Try.ntmps32 rfl ?_
  have G : Agr (· = bf) w w := Agr.refl _ _
  refine RC.seq ?_
  refine RC.region rfl ?_
  refine RL.ev (.assign rfl) rfl rfl ?_
  refine RL.nil (RC.back ?_)
  refine RC.seq ?_
  refine RC.seq ?_
  refine RC.region rfl ?_
  refine RL.ev (.move rfl) rfl rfl ?_
  refine RL.ev (.nilCheck rfl) rfl rfl ?_
  refine RL.ev (.field0 fo84_1 rfl) rfl rfl ?_
  refine RL.ev (.load1 sh31 rfl (hbf.cell rfl)) rfl rfl ?_
  refine RL.ev (.bin rfl rfl rfl) rfl rfl ?_
  refine RL.nil (RC.back ?_)
  refine RC.cond_dec rfl (fun h1 => ?_) (fun h1 => ?_)
  ·
    have hbad : ¬ bad = 0 := h1
    refine RC.seq ?_
    refine RC.region rfl ?_
    refine RL.ev (.assign rfl) rfl rfl ?_
    refine RL.nil (RC.back ?_)
    refine RC.done (rs := [.tmp 8]) (vs := [_]) rfl rfl ⟨rfl, trivial⟩ ?_
    -- end 1
    exact ⟨(A, bad), 0, C, rfl, .inl ⟨hbad, rfl, rfl⟩, hF, G, Up.refl _ _⟩
  ·
    have hbad : bad = 0 := Decidable.not_not.1 h1
    refine RC.skip (RC.back ?_)
    refine RC.seq ?_
    refine RC.region rfl ?_
    refine RL.ev (.move rfl) rfl rfl ?_
    refine RL.ev (.move rfl) rfl rfl ?_
    refine RL.ev (.move rfl) rfl rfl ?_
    refine RL.call rfl ok30 (c_wget bf (A, bad) C x hx w hF) rfl rfl ?_
    rintro _ w2 ⟨rfl, s3⟩
    have G := G.trans s3.agr
    have hbf := hbf.sub s3
    have hA := hA.sub s3
    have hF := hF.sub s3
    refine RL.ev (.as (v' := .int .i64 (sizeA A x)) (.fieldV Try.underlying73 rfl sh2 rfl rfl) (by show Value.int .i64 (getN A x).s = _; rw [getN_s])) rfl rfl ?_
    refine RL.ev (.bin rfl rfl rfl) rfl rfl ?_
    refine RL.ev (.move rfl) rfl rfl ?_
    refine RL.ev (.move rfl) rfl rfl ?_
    refine RL.call rfl ok30 (c_wget bf (A, bad) C y hy w2 hF) rfl rfl ?_
    rintro _ w4 ⟨rfl, s5⟩
    have G := G.trans s5.agr
    have hbf := hbf.sub s5
    have hA := hA.sub s5
    have hF := hF.sub s5
    refine RL.ev (.as (v' := .int .i64 (sizeA A y)) (.fieldV Try.underlying73 rfl sh2 rfl rfl) (by show Value.int .i64 (getN A y).s = _; rw [getN_s])) rfl rfl ?_
    refine RL.ev (.bin rfl rfl rfl) rfl rfl ?_
    refine RL.ev (.buildS ze73 pl73 rfl rfl) rfl rfl ?_
    refine RL.alloc ze73 rfl rfl (fun b_9 w_9 e_9 z_9 hb_9 s_9 => ?_)
    have nf__9 := hbf.ne e_9
    have d_hA_b_9 := hA.neNew e_9
    have d_hF_b_9 := hF.neNew e_9
    have geG_9 := agLe G e_9
    have G := G.trans s_9.agr
    have hbf := hbf.sub s_9
    have hA := hA.sub s_9
    have hF := hF.sub s_9
    refine RL.store sh73 rfl rfl rfl hb_9 (by exact Nat.le_of_ble_eq_true rfl) (by rfl) rfl (fun w6 z6 hb_9 a6 => ?_)
    have G := agNew G a6 geG_9
    have hbf := hbf.upd a6 nf__9
    have hA := hA.updD a6 d_hA_b_9
    have hF := hF.updD a6 d_hF_b_9
    have hb_9 : Has w6 b_9 ((rNode 0 v (szW A x y) 0 0).cells) _ := hb_9.now (by kernel_rfl)
    refine RL.nil (RC.back ?_)
    refine RC.seq ?_
    refine RC.region rfl ?_
    refine RL.ev (.move rfl) rfl rfl ?_
    refine RL.ev (.move rfl) rfl rfl ?_
    refine RL.ev (.field0 fo73_5 rfl) rfl rfl ?_
    refine RL.ev (.indexArr ar71 rfl rfl (by omega)) rfl rfl ?_
    refine RL.store sh28 rfl rfl rfl hb_9 (by exact Nat.le_of_ble_eq_true rfl) (by rfl) rfl (fun w7 z7 hb_9 a7 => ?_)
    have G := agNew G a7 geG_9
    have hbf := hbf.upd a7 nf__9
    have hA := hA.updD a7 d_hA_b_9
    have hF := hF.updD a7 d_hF_b_9
    have hb_9 : Has w7 b_9 ((rNode 0 v (szW A x y) x 0).cells) _ := hb_9
    refine RL.ev (.field0 fo73_5 rfl) rfl rfl ?_
    refine RL.ev (.indexArr ar71 rfl rfl (by omega)) rfl rfl ?_
    refine RL.store sh28 rfl rfl rfl hb_9 (by exact Nat.le_of_ble_eq_true rfl) (by rfl) rfl (fun w8 z8 hb_9 a8 => ?_)
    have G := agNew G a8 geG_9
    have hbf := hbf.upd a8 nf__9
    have hA := hA.updD a8 d_hA_b_9
    have hF := hF.updD a8 d_hF_b_9
    have hb_9 : Has w8 b_9 ((wN A v x y).cells) _ := hb_9
    have hxo : (wN A v x y).ok := wN_ok hv hx hy
    refine RL.nil (RC.back ?_)
    refine RC.seq ?_
    refine RC.drawD (fun k => False) [11] w8.heap.size 14 rfl rfl mxo (fun w9 s10 => ?_)
    have ltD_bf := hbf.lt
    have ltD_hA := fun k hk => (hA.ge k hk).2
    have ltD_hF := fun k hk => (hF.ge k hk).2
    have ltD_b_9 := hb_9.lt
    have szD := Nat.le_refl w8.heap.size
    have G := G.trans s10.agr
    have hbf := hbf.sub s10
    have hA := hA.sub s10
    have hF := hF.sub s10
    have hb_9 := hb_9.sub s10
    have szD := Nat.le_trans szD s10.size
    refine RD.take 0 rfl (by kernel_rfl) (by kernel_rfl) (by kernel_rfl) (fun w' s' => .move rfl) rfl rfl ?_
    refine RD.take 1 rfl (by kernel_rfl) (by kernel_rfl) (by kernel_rfl) (fun w' s' => .nilCheck rfl) rfl rfl ?_
    refine RD.take 2 rfl (by kernel_rfl) (by kernel_rfl) (by kernel_rfl) (fun w' s' => .field0 fo84_0 rfl) rfl rfl ?_
    refine RD.take 3 rfl (by kernel_rfl) (by kernel_rfl) (by kernel_rfl) (fun w' s' => .loadR (wvA na fa nc fc A) sh26 rfl (row_pref (xs := wvA na fa nc fc A) (ys := [.int .i64 bad]) (hbf.step s' (fun e => e.elim (fun e => e.elim) (fun e => Nat.not_le.2 ltD_bf e)))) rfl) rfl rfl ?_
    refine RD.take 4 rfl (by kernel_rfl) (by kernel_rfl) (by kernel_rfl) (fun w' s' => .loadR ((wN A v x y).cells) sh73 rfl (hb_9.step s' (fun e => e.elim (fun e => e.elim) (fun e => Nat.not_le.2 ltD_b_9 e))).row rfl) rfl rfl ?_
    refine RD.all [5, 10] (by kernel_rfl) rfl (RDs.cons rfl ?_ (RDs.cons rfl ?_ (RDs.nil)))
    ·
      refine RL.call rfl ok50 (c_aMake A na fa nc fc (wN A v x y) hxo w9 hA.now hfc) rfl rfl ?_
      rintro _ w11 ⟨s12, hr2⟩
      obtain ⟨nb, fb, ncb, fcb, B, rB, eB, rfl, hnB, hfB, hiB, he0, he1⟩ := make_form hr2
      have szGM := G.size
      have d_hB_bf := neFt (w' := w11) dA hbf.lt
      have d_hB_b_9 := neFt (w' := w11) d_hA_b_9 hb_9.lt
      have hB := hA.ans hiB s12
      have G := G.trans s12.agr
      have hbf := hbf.sub s12
      have hA := hA.sub s12
      have hF := hF.sub s12
      have hb_9 := hb_9.sub s12
      have szD := Nat.le_trans szD s12.size
      refine RD.back s12.agr ?_
      refine RD.take 6 rfl (by kernel_rfl) (by kernel_rfl) (by kernel_rfl) (fun w' s' => .move rfl) rfl rfl ?_
      refine RD.take 7 rfl (by kernel_rfl) (by kernel_rfl) (by kernel_rfl) (fun w' s' => .extract rfl rfl) rfl rfl ?_
      refine RD.take 8 rfl (by kernel_rfl) (by kernel_rfl) (by kernel_rfl) (fun w' s' => .extract rfl rfl) rfl rfl ?_
      refine RD.take 9 rfl (by kernel_rfl) (by kernel_rfl) (by kernel_rfl) (fun w' s' => .extract rfl rfl) rfl rfl ?_
      refine RD.all [10] (by kernel_rfl) rfl (RDs.cons rfl ?_ (RDs.nil))
      refine RL.alloc ze26 rfl rfl (fun b_10 w_10 e_10 z_10 hb_10 s_10 => ?_)
      have fr_b_10 : w8.heap.size ≤ b_10 := by rw [e_10]; exact szD
      have nf__10 := hbf.ne e_10
      have n_9__10 := hb_9.ne e_10
      have d_hA_b_10 := hA.neNew e_10
      have d_hF_b_10 := hF.neNew e_10
      have d_hB_b_10 := hB.neNew e_10
      have geG_10 := agLe G e_10
      have G := G.trans s_10.agr
      have hbf := hbf.sub s_10
      have hA := hA.sub s_10
      have hF := hF.sub s_10
      have hb_9 := hb_9.sub s_10
      have szD := Nat.le_trans szD s_10.size
      have hB := hB.sub s_10
      refine RD.back s_10.agr ?_
      refine RD.all [11] (by kernel_rfl) rfl (RDs.cons rfl ?_ (RDs.nil))
      refine RL.store sh26 rfl rfl rfl hb_10 (by exact Nat.le_of_ble_eq_true rfl) (by rfl) rfl (fun w13 z13 hb_10 a13 => ?_)
      have G := agNew G a13 geG_10
      have hbf := hbf.upd a13 nf__10
      have hA := hA.updD a13 d_hA_b_10
      have hF := hF.updD a13 d_hF_b_10
      have hb_9 := hb_9.upd a13 n_9__10
      have szD := Nat.le_trans szD a13.size
      have hB := hB.updD a13 d_hB_b_10
      have hb_10 : Has w13 b_10 ([.slice nb B.nodes.length ncb, .slice fb B.free.length fcb]) _ := hb_10.now (by kernel_rfl)
      refine RD.backW rfl (a13.mono fun k _ e => e ▸ (.inr fr_b_10)) ?_
      refine RD.take 12 rfl (by kernel_rfl) (by kernel_rfl) (by kernel_rfl) (fun w' s' => .assign rfl) rfl rfl ?_
      refine RD.take 13 rfl (by kernel_rfl) (by kernel_rfl) (by kernel_rfl) (fun w' s' => .assign rfl) rfl rfl ?_
      refine RD.done (by kernel_rfl) (RC.back ?_)
      refine RC.seq ?_
      refine RC.seq ?_
      refine RC.region rfl ?_
      refine RL.ev (.move rfl) rfl rfl ?_
      refine RL.ev (.move rfl) rfl rfl ?_
      refine RL.ev (.nilCheck rfl) rfl rfl ?_
      refine RL.ev (.field0 fo84_1 rfl) rfl rfl ?_
      refine RL.store sh31 rfl rfl rfl hbf (by exact Nat.le_of_ble_eq_true rfl) (by rfl) rfl (fun w14 z14 hbf a14 => ?_)
      have G := G.trans a14
      have hA := hA.updD a14 dA
      have hb_9 := hb_9.upd a14 nf__9.symm
      have hB := hB.updD a14 d_hB_bf
      have hb_10 := hb_10.upd a14 nf__10.symm
      have hbf : Has w14 bf (wvC na fa nc fc A eB) _ := hbf
      refine RL.nil (RC.back ?_)
      refine RC.seq ?_
      refine RC.region rfl ?_
      refine RL.ev (.move rfl) rfl rfl ?_
      refine RL.ev (.bin rfl rfl rfl) rfl rfl ?_
      refine RL.nil (RC.back ?_)
      refine RC.cond_dec rfl (fun h15 => ?_) (fun h15 => ?_)
      ·
        have he := h15
        refine RC.seq ?_
        refine RC.region rfl ?_
        refine RL.ev (.assign rfl) rfl rfl ?_
        refine RL.nil (RC.back ?_)
        refine RC.done (rs := [.tmp 8]) (vs := [_]) rfl rfl ⟨rfl, trivial⟩ ?_
        -- end 2
        obtain ⟨rfl, rfl, hcs⟩ := he1 he
        refine ⟨(A, eB), 0, _, rfl, .inr (.inr ?_), FoG.ft hbf hnc hfc hA hMb, G, fun k hk => .inl (hk.elim (fun e => e ▸ hCb) (hMC k))⟩
        rcases hcs with ⟨h1, h2⟩ | ⟨h1, h2, h3⟩
        · exact .inr ⟨hbad, h1, by rw [h2], rfl⟩
        · exact .inl ⟨hbad, h1, h2, by rw [h3], rfl⟩
      ·
        have he : eB = 0 := Decidable.not_not.1 h15
        refine RC.skip (RC.back ?_)
        refine RC.seq ?_
        refine RC.region rfl ?_
        refine RL.ev (.move rfl) rfl rfl ?_
        refine RL.ev (.loadR ([.slice nb B.nodes.length ncb, .slice fb B.free.length fcb]) sh26 rfl hb_10.row rfl) rfl rfl ?_
        refine RL.ev (.nilCheck rfl) rfl rfl ?_
        refine RL.ev (.field0 fo84_0 rfl) rfl rfl ?_
        refine RL.store sh26 rfl rfl rfl hbf (by exact Nat.le_of_ble_eq_true rfl) (by rfl) rfl (fun w16 z16 hbf a16 => ?_)
        have G := G.trans a16
        have hA := hA.updD a16 dA
        have hb_9 := hb_9.upd a16 nf__9.symm
        have hB := hB.updD a16 d_hB_bf
        have hb_10 := hb_10.upd a16 nf__10.symm
        have hbf : Has w16 bf (wvC nb fb ncb fcb B eB) _ := hbf
        refine RL.nil (RC.back ?_)
        refine RC.seq ?_
        refine RC.region rfl ?_
        refine RL.ev (.move rfl) rfl rfl ?_
        refine RL.ev (.assign rfl) rfl rfl ?_
        refine RL.nil (RC.back ?_)
        refine RC.done (rs := [.tmp 8]) (vs := [_]) rfl rfl ⟨rfl, trivial⟩ ?_
        -- end 3
        obtain ⟨h1, h2, h3, h4⟩ := he0 he
        exact ⟨(B, eB), rB, _, rfl, .inr (.inl ⟨hbad, h1, h2, by rw [he, h3], h4⟩), FoG.ft hbf hnB hfB hB (fun e => d_hB_bf _ e rfl), G, fun k hk => hk.elim (fun e => .inl (e ▸ hCb)) (fun e => e.elim (fun e => .inl (hMC k e)) (fun e => .inr (Nat.le_trans szGM e.1)))⟩
    ·
      refine RL.alloc ze26 rfl rfl (fun b_10 w_10 e_10 z_10 hb_10 s_10 => ?_)
      have fr_b_10 : w8.heap.size ≤ b_10 := by rw [e_10]; exact szD
      have nf__10 := hbf.ne e_10
      have n_9__10 := hb_9.ne e_10
      have d_hA_b_10 := hA.neNew e_10
      have d_hF_b_10 := hF.neNew e_10
      have geG_10 := agLe G e_10
      have G := G.trans s_10.agr
      have hbf := hbf.sub s_10
      have hA := hA.sub s_10
      have hF := hF.sub s_10
      have hb_9 := hb_9.sub s_10
      have szD := Nat.le_trans szD s_10.size
      refine RD.back s_10.agr ?_
      refine RD.all [5] (by kernel_rfl) rfl (RDs.cons rfl ?_ (RDs.nil))
      refine RL.call rfl ok50 (c_aMake A na fa nc fc (wN A v x y) hxo w_10 hA.now hfc) rfl rfl ?_
      rintro _ w17 ⟨s18, hr2⟩
      obtain ⟨nb, fb, ncb, fcb, B, rB, eB, rfl, hnB, hfB, hiB, he0, he1⟩ := make_form hr2
      have szGM := G.size
      have d_hB_bf := neFt (w' := w17) dA hbf.lt
      have d_hB_b_9 := neFt (w' := w17) d_hA_b_9 hb_9.lt
      have d_hB_b_10 := neFt (w' := w17) d_hA_b_10 hb_10.lt
      have hB := hA.ans hiB s18
      have G := G.trans s18.agr
      have hbf := hbf.sub s18
      have hA := hA.sub s18
      have hF := hF.sub s18
      have hb_9 := hb_9.sub s18
      have szD := Nat.le_trans szD s18.size
      have hb_10 := hb_10.sub s18
      refine RD.back s18.agr ?_
      refine RD.take 6 rfl (by kernel_rfl) (by kernel_rfl) (by kernel_rfl) (fun w' s' => .move rfl) rfl rfl ?_
      refine RD.take 7 rfl (by kernel_rfl) (by kernel_rfl) (by kernel_rfl) (fun w' s' => .extract rfl rfl) rfl rfl ?_
      refine RD.take 8 rfl (by kernel_rfl) (by kernel_rfl) (by kernel_rfl) (fun w' s' => .extract rfl rfl) rfl rfl ?_
      refine RD.take 9 rfl (by kernel_rfl) (by kernel_rfl) (by kernel_rfl) (fun w' s' => .extract rfl rfl) rfl rfl ?_
      refine RD.all [11] (by kernel_rfl) rfl (RDs.cons rfl ?_ (RDs.nil))
      refine RL.store sh26 rfl rfl rfl hb_10 (by exact Nat.le_of_ble_eq_true rfl) (by rfl) rfl (fun w19 z19 hb_10 a19 => ?_)
      have G := agNew G a19 geG_10
      have hbf := hbf.upd a19 nf__10
      have hA := hA.updD a19 d_hA_b_10
      have hF := hF.updD a19 d_hF_b_10
      have hb_9 := hb_9.upd a19 n_9__10
      have szD := Nat.le_trans szD a19.size
      have hB := hB.updD a19 d_hB_b_10
      have hb_10 : Has w19 b_10 ([.slice nb B.nodes.length ncb, .slice fb B.free.length fcb]) _ := hb_10.now (by kernel_rfl)
      refine RD.backW rfl (a19.mono fun k _ e => e ▸ (.inr fr_b_10)) ?_
      refine RD.take 12 rfl (by kernel_rfl) (by kernel_rfl) (by kernel_rfl) (fun w' s' => .assign rfl) rfl rfl ?_
      refine RD.take 13 rfl (by kernel_rfl) (by kernel_rfl) (by kernel_rfl) (fun w' s' => .assign rfl) rfl rfl ?_
      refine RD.done (by kernel_rfl) (RC.back ?_)
      refine RC.seq ?_
      refine RC.seq ?_
      refine RC.region rfl ?_
      refine RL.ev (.move rfl) rfl rfl ?_
      refine RL.ev (.move rfl) rfl rfl ?_
      refine RL.ev (.nilCheck rfl) rfl rfl ?_
      refine RL.ev (.field0 fo84_1 rfl) rfl rfl ?_
      refine RL.store sh31 rfl rfl rfl hbf (by exact Nat.le_of_ble_eq_true rfl) (by rfl) rfl (fun w20 z20 hbf a20 => ?_)
      have G := G.trans a20
      have hA := hA.updD a20 dA
      have hb_9 := hb_9.upd a20 nf__9.symm
      have hb_10 := hb_10.upd a20 nf__10.symm
      have hB := hB.updD a20 d_hB_bf
      have hbf : Has w20 bf (wvC na fa nc fc A eB) _ := hbf
      refine RL.nil (RC.back ?_)
      refine RC.seq ?_
      refine RC.region rfl ?_
      refine RL.ev (.move rfl) rfl rfl ?_
      refine RL.ev (.bin rfl rfl rfl) rfl rfl ?_
      refine RL.nil (RC.back ?_)
      refine RC.cond_dec rfl (fun h21 => ?_) (fun h21 => ?_)
      ·
        have he := h21
        refine RC.seq ?_
        refine RC.region rfl ?_
        refine RL.ev (.assign rfl) rfl rfl ?_
        refine RL.nil (RC.back ?_)
        refine RC.done (rs := [.tmp 8]) (vs := [_]) rfl rfl ⟨rfl, trivial⟩ ?_
        -- end 4
        obtain ⟨rfl, rfl, hcs⟩ := he1 he
        refine ⟨(A, eB), 0, _, rfl, .inr (.inr ?_), FoG.ft hbf hnc hfc hA hMb, G, fun k hk => .inl (hk.elim (fun e => e ▸ hCb) (hMC k))⟩
        rcases hcs with ⟨h1, h2⟩ | ⟨h1, h2, h3⟩
        · exact .inr ⟨hbad, h1, by rw [h2], rfl⟩
        · exact .inl ⟨hbad, h1, h2, by rw [h3], rfl⟩
      ·
        have he : eB = 0 := Decidable.not_not.1 h21
        refine RC.skip (RC.back ?_)
        refine RC.seq ?_
        refine RC.region rfl ?_
        refine RL.ev (.move rfl) rfl rfl ?_
        refine RL.ev (.loadR ([.slice nb B.nodes.length ncb, .slice fb B.free.length fcb]) sh26 rfl hb_10.row rfl) rfl rfl ?_
        refine RL.ev (.nilCheck rfl) rfl rfl ?_
        refine RL.ev (.field0 fo84_0 rfl) rfl rfl ?_
        refine RL.store sh26 rfl rfl rfl hbf (by exact Nat.le_of_ble_eq_true rfl) (by rfl) rfl (fun w22 z22 hbf a22 => ?_)
        have G := G.trans a22
        have hA := hA.updD a22 dA
        have hb_9 := hb_9.upd a22 nf__9.symm
        have hb_10 := hb_10.upd a22 nf__10.symm
        have hB := hB.updD a22 d_hB_bf
        have hbf : Has w22 bf (wvC nb fb ncb fcb B eB) _ := hbf
        refine RL.nil (RC.back ?_)
        refine RC.seq ?_
        refine RC.region rfl ?_
        refine RL.ev (.move rfl) rfl rfl ?_
        refine RL.ev (.assign rfl) rfl rfl ?_
        refine RL.nil (RC.back ?_)
        refine RC.done (rs := [.tmp 8]) (vs := [_]) rfl rfl ⟨rfl, trivial⟩ ?_
        -- end 5
        obtain ⟨h1, h2, h3, h4⟩ := he0 he
        exact ⟨(B, eB), rB, _, rfl, .inr (.inl ⟨hbad, h1, h2, by rw [he, h3], h4⟩), FoG.ft hbf hnB hfB hB (fun e => d_hB_bf _ e rfl), G, fun k hk => hk.elim (fun e => .inl (e ▸ hCb)) (fun e => e.elim (fun e => .inl (hMC k e)) (fun e => .inr (Nat.le_trans szGM e.1)))⟩
end Go.Proofs.Ytefakjhfcgjhgaa
