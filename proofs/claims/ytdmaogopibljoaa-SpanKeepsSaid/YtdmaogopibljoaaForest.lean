/-
  The forest's methods, walked: get, make.
-/
import Derived.Test.YtdmaogopibljoaaForestP
import Derived.Test.YtdmaogopibljoaaRange
set_option linter.unusedVariables false
set_option linter.unusedSimpArgs false
namespace Go.Proofs.Ytdmaogopibljoaa
open Go Go.XL

def getN (A : Ar) (r : Int) : Node := (getA A r).getD (bareN 0)
theorem getN_s (A : Ar) (r : Int) : (getN A r).s = sizeA A r := by
  unfold getN sizeA
  cases getA A r <;> rfl
theorem getN_yes {A : Ar} {r : Int} {x : Node} (h : getA A r = some x) : getN A r = x := by unfold getN; rw [h]; rfl
theorem getN_v (A : Ar) (r : Int) : ∃ e, getV A r = .tuple #[(getN A r).val, .int .i64 e] := by
  unfold getN
  cases h : getA A r with
  | none => exact ⟨4, getV_no h⟩
  | some x => exact ⟨0, getV_yes h⟩
/-- the forest's block, and what it reads -/
def Fo (b : Nat) (s : St) (C : Nat → Prop) (u : World) : Prop :=
  C b ∧ ∃ na fa nc fc M, Has u b (frC na fa nc fc s.1 s.2) 80 ∧ s.1.nodes.length ≤ nc ∧ s.1.free.length ≤ fc ∧ Ft M (fun u => ArR u na fa s.1) u ∧ ¬ M b ∧ ∀ k, M k → C k
theorem Fo.ft {b : Nat} {s : St} {M : Nat → Prop} {w : World} {na fa : Option Addr} {nc fc : Nat} (h : Has w b (frC na fa nc fc s.1 s.2) 80) (h1 : s.1.nodes.length ≤ nc) (h2 : s.1.free.length ≤ fc) (h3 : Ft M (fun u => ArR u na fa s.1) w) (h4 : ¬ M b) :
    Ft (fun k => k = b ∨ M k) (Fo b s (fun k => k = b ∨ M k)) w :=
  ⟨fun k hk => hk.elim (fun e => e ▸ h.lt) (h3.lt k), fun u a => ⟨.inl rfl, na, fa, nc, fc, M, h.step a (fun hn => hn (.inl rfl)), h1, h2, h3.step a (fun k hk hn => hn (.inr hk)), h4, fun k hk => .inr hk⟩⟩
theorem c_fget (b : Nat) (s : St) (C : Nat → Prop) (r : Int) (hr : U64 r) (w : World) (hF : Ft C (Fo b s C) w) :
    FC Try.prog 25 [.pointer (some ⟨b, 0, none⟩), .int .u64 r] w (Val (getN s.1 r).val w) := by
  obtain ⟨hCb, na, fa, nc, fc, M, hbf, hnc, hfc, hA, hMb, hMC⟩ := hF.now
  obtain ⟨e, hgv⟩ := getN_v s.1 r
  have hA := hA.now
  refine FC.intro Try.func25 rfl Try.ntmps25 rfl ?_
  have S := Sub.refl w
  refine RC.seq ?_
  refine RC.region rfl ?_
  refine RL.alloc ze69 rfl rfl (fun b_4 w_4 e_4 z_4 hb_4 s_4 => ?_)
  have ge_4 := S.le e_4
  have n__4 := hbf.ne e_4
  have S := S.trans s_4
  have hbf := hbf.sub s_4
  refine RL.nil (RC.back ?_)
  refine RC.seq ?_
  refine RC.region rfl ?_
  refine RL.ev (.move rfl) rfl rfl ?_
  refine RL.ev (.nilCheck rfl) rfl rfl ?_
  refine RL.ev (.field0 fo80_0 rfl) rfl rfl ?_
  refine RL.ev (.loadR (frA na fa nc fc s.1) sh28 rfl (row_pre (xs := frA na fa nc fc s.1) (ys := [.int .i64 s.2]) hbf) rfl) rfl rfl ?_
  refine RL.ev (.move rfl) rfl rfl ?_
  refine RL.call rfl ok34 (c_aGet s.1 na fa nc fc r hr w_4 (hA.sub S)) rfl rfl ?_
  rintro _ w1 ⟨rfl, s2⟩
  have S := S.trans s2
  have hbf := hbf.sub s2
  have hb_4 := hb_4.sub s2
  refine RL.ev (.as (v' := .tuple #[(getN s.1 r).val, .int .i64 e]) (.move rfl) (by rw [hgv])) rfl rfl ?_
  refine RL.ev (.extract rfl rfl) rfl rfl ?_
  refine RL.ev (.extract rfl rfl) rfl rfl ?_
  refine RL.alloc ze69 rfl rfl (fun b_5 w_5 e_5 z_5 hb_5 s_5 => ?_)
  have ge_5 := S.le e_5
  have n__5 := hbf.ne e_5
  have n_4__5 := hb_4.ne e_5
  have S := S.trans s_5
  have hbf := hbf.sub s_5
  have hb_4 := hb_4.sub s_5
  refine RL.store sh69 rfl rfl rfl hb_5 (by exact Nat.le_of_ble_eq_true rfl) (by rfl) rfl (fun w3 z3 hb_5 a3 => ?_)
  have S := S.upd a3 ge_5
  have hbf := hbf.upd a3 n__5
  have hb_4 := hb_4.upd a3 n_4__5
  have hb_5 : Has w3 b_5 ((getN s.1 r).cells) _ := hb_5.now (by kernel_rfl)
  refine RL.ev (.assign rfl) rfl rfl ?_
  refine RL.nil (RC.back ?_)
  refine RC.seq ?_
  refine RC.region rfl ?_
  refine RL.ev (.loadR ((getN s.1 r).cells) sh69 rfl hb_5.row rfl) rfl rfl ?_
  refine RL.store sh69 rfl rfl rfl hb_4 (by exact Nat.le_of_ble_eq_true rfl) (by rfl) rfl (fun w4 z4 hb_4 a4 => ?_)
  have S := S.upd a4 ge_4
  have hbf := hbf.upd a4 n__4
  have hb_5 := hb_5.upd a4 n_4__5.symm
  have hb_4 : Has w4 b_4 ((getN s.1 r).cells) _ := hb_4.now (by kernel_rfl)
  refine RL.nil (RC.back ?_)
  refine RC.done (rs := [.cell 4 69]) (vs := [_]) rfl rfl ⟨⟨_, rfl, .inr ⟨(getN s.1 r).cells, sh69, hb_4.row, rfl⟩⟩, trivial⟩ ?_
  -- end 1
  exact ⟨rfl, S⟩
theorem mkN_ok {A : Ar} {n v x y : Int} (hn : I64 n) (hv : I64 v) (hx : U64 x) (hy : U64 y) : (mkN A n v x y).ok := by
  have hz : U64 0 := by unfold U64; decide
  have hi : I64 0 := by unfold I64; decide
  refine ⟨by unfold I64; show _ ≤ (1 : Int) ∧ (1 : Int) ≤ _; omega, hi, hn, hv, by unfold I64; show _ ≤ IntKind.i64.wrap _ ∧ IntKind.i64.wrap _ ≤ _; rw [IntKind.wrap_i64]; omega, ?_, hi, hi⟩
  intro k hk
  simp only [mkN, tNode, Node.kids, List.mem_cons, List.not_mem_nil, or_false] at hk
  rcases hk with rfl | rfl | rfl | rfl | rfl | rfl | rfl | rfl | rfl <;> assumption
theorem c_fmake (bf : Nat) (s : St) (C : Nat → Prop) (n v x y : Int) (hn : I64 n) (hv : I64 v) (hx : U64 x) (hy : U64 y) (w : World) (hF : Ft C (Fo bf s C) w) :
    FC Try.prog 35 [.pointer (some ⟨bf, 0, none⟩), .int .i64 n, .int .i64 v, .int .u64 x, .int .u64 y] w (fun u w' => ∃ s' r C', u = .int .u64 r ∧ Mk s n v x y s' r ∧ Ft C' (Fo bf s' C') w' ∧ Agr (· = bf) w w' ∧ Up C w C') := by
  obtain ⟨hCb, na, fa, nc, fc, M, hbf, hnc, hfc, hA, hMb, hMC⟩ := hF.now
  obtain ⟨A, bad⟩ := s
  simp only [] at hbf hnc hfc hA
  have dA : ∀ k, M k → k ≠ bf := fun k hk e => hMb (e ▸ hk)
  refine FC.intro Try.func35 rfl Try.ntmps35 rfl ?_
  have G : Agr (· = bf) w w := Agr.refl _ _
  refine RC.seq ?_
  refine RC.region rfl ?_
  refine RL.ev (.assign rfl) rfl rfl ?_
  refine RL.nil (RC.back ?_)
  refine RC.seq ?_
  refine RC.seq ?_
  refine RC.region rfl ?_
  refine RL.ev (.move rfl) rfl rfl ?_
  refine RL.ev (.nilCheck rfl) rfl rfl ?_
  refine RL.ev (.field0 fo80_1 rfl) rfl rfl ?_
  refine RL.ev (.load1 sh33 rfl (hbf.cell rfl)) rfl rfl ?_
  refine RL.ev (.bin rfl rfl rfl) rfl rfl ?_
  refine RL.nil (RC.back ?_)
  refine RC.cond_dec rfl (fun h1 => ?_) (fun h1 => ?_)
  ·
    have hbad : ¬ bad = 0 := h1
    refine RC.seq ?_
    refine RC.region rfl ?_
    refine RL.ev (.assign rfl) rfl rfl ?_
    refine RL.nil (RC.back ?_)
    refine RC.done (rs := [.tmp 10]) (vs := [_]) rfl rfl ⟨rfl, trivial⟩ ?_
    -- end 1
    exact ⟨(A, bad), 0, C, rfl, .inl ⟨hbad, rfl, rfl⟩, hF, G, Up.refl _ _⟩
  ·
    have hbad : bad = 0 := Decidable.not_not.1 h1
    refine RC.skip (RC.back ?_)
    refine RC.seq ?_
    refine RC.region rfl ?_
    refine RL.ev (.move rfl) rfl rfl ?_
    refine RL.ev (.move rfl) rfl rfl ?_
    refine RL.ev (.move rfl) rfl rfl ?_
    refine RL.ev (.move rfl) rfl rfl ?_
    refine RL.call rfl ok25 (c_fget bf (A, bad) C x hx w hF) rfl rfl ?_
    rintro _ w2 ⟨rfl, s3⟩
    have G := G.trans s3.agr
    have hbf := hbf.sub s3
    have hA := hA.sub s3
    have hF := hF.sub s3
    refine RL.ev (.as (v' := .int .i64 (sizeA A x)) (.fieldV Try.underlying69 rfl sh2 rfl rfl) (by show Value.int .i64 (getN A x).s = _; rw [getN_s])) rfl rfl ?_
    refine RL.ev (.bin rfl rfl rfl) rfl rfl ?_
    refine RL.ev (.move rfl) rfl rfl ?_
    refine RL.ev (.move rfl) rfl rfl ?_
    refine RL.call rfl ok25 (c_fget bf (A, bad) C y hy w2 hF) rfl rfl ?_
    rintro _ w4 ⟨rfl, s5⟩
    have G := G.trans s5.agr
    have hbf := hbf.sub s5
    have hA := hA.sub s5
    have hF := hF.sub s5
    refine RL.ev (.as (v' := .int .i64 (sizeA A y)) (.fieldV Try.underlying69 rfl sh2 rfl rfl) (by show Value.int .i64 (getN A y).s = _; rw [getN_s])) rfl rfl ?_
    refine RL.ev (.bin rfl rfl rfl) rfl rfl ?_
    refine RL.ev (.buildS ze69 pl69 rfl rfl) rfl rfl ?_
    refine RL.alloc ze69 rfl rfl (fun b_11 w_11 e_11 z_11 hb_11 s_11 => ?_)
    have nf__11 := hbf.ne e_11
    have d_hA_b_11 := hA.neNew e_11
    have d_hF_b_11 := hF.neNew e_11
    have geG_11 := agLe G e_11
    have G := G.trans s_11.agr
    have hbf := hbf.sub s_11
    have hA := hA.sub s_11
    have hF := hF.sub s_11
    refine RL.store sh69 rfl rfl rfl hb_11 (by exact Nat.le_of_ble_eq_true rfl) (by rfl) rfl (fun w6 z6 hb_11 a6 => ?_)
    have G := agNew G a6 geG_11
    have hbf := hbf.upd a6 nf__11
    have hA := hA.updD a6 d_hA_b_11
    have hF := hF.updD a6 d_hF_b_11
    have hb_11 : Has w6 b_11 ((tNode 0 n v (szF A x y) 0 0).cells) _ := hb_11.now (by kernel_rfl)
    refine RL.nil (RC.back ?_)
    refine RC.seq ?_
    refine RC.region rfl ?_
    refine RL.ev (.move rfl) rfl rfl ?_
    refine RL.ev (.move rfl) rfl rfl ?_
    refine RL.ev (.field0 fo69_5 rfl) rfl rfl ?_
    refine RL.ev (.indexArr ar67 rfl rfl (by omega)) rfl rfl ?_
    refine RL.store sh30 rfl rfl rfl hb_11 (by exact Nat.le_of_ble_eq_true rfl) (by rfl) rfl (fun w7 z7 hb_11 a7 => ?_)
    have G := agNew G a7 geG_11
    have hbf := hbf.upd a7 nf__11
    have hA := hA.updD a7 d_hA_b_11
    have hF := hF.updD a7 d_hF_b_11
    have hb_11 : Has w7 b_11 ((tNode 0 n v (szF A x y) x 0).cells) _ := hb_11
    refine RL.ev (.field0 fo69_5 rfl) rfl rfl ?_
    refine RL.ev (.indexArr ar67 rfl rfl (by omega)) rfl rfl ?_
    refine RL.store sh30 rfl rfl rfl hb_11 (by exact Nat.le_of_ble_eq_true rfl) (by rfl) rfl (fun w8 z8 hb_11 a8 => ?_)
    have G := agNew G a8 geG_11
    have hbf := hbf.upd a8 nf__11
    have hA := hA.updD a8 d_hA_b_11
    have hF := hF.updD a8 d_hF_b_11
    have hb_11 : Has w8 b_11 ((mkN A n v x y).cells) _ := hb_11
    have hxo : (mkN A n v x y).ok := mkN_ok hn hv hx hy
    refine RL.nil (RC.back ?_)
    refine RC.seq ?_
    refine RC.drawD (fun k => False) [11] w8.heap.size 14 rfl rfl mxo (fun w9 s10 => ?_)
    have ltD_bf := hbf.lt
    have ltD_hA := fun k hk => (hA.ge k hk).2
    have ltD_hF := fun k hk => (hF.ge k hk).2
    have ltD_b_11 := hb_11.lt
    have szD := Nat.le_refl w8.heap.size
    have G := G.trans s10.agr
    have hbf := hbf.sub s10
    have hA := hA.sub s10
    have hF := hF.sub s10
    have hb_11 := hb_11.sub s10
    have szD := Nat.le_trans szD s10.size
    refine RD.take 0 rfl (by kernel_rfl) (by kernel_rfl) (by kernel_rfl) (fun w' s' => .move rfl) rfl rfl ?_
    refine RD.take 1 rfl (by kernel_rfl) (by kernel_rfl) (by kernel_rfl) (fun w' s' => .nilCheck rfl) rfl rfl ?_
    refine RD.take 2 rfl (by kernel_rfl) (by kernel_rfl) (by kernel_rfl) (fun w' s' => .field0 fo80_0 rfl) rfl rfl ?_
    refine RD.take 3 rfl (by kernel_rfl) (by kernel_rfl) (by kernel_rfl) (fun w' s' => .loadR (frA na fa nc fc A) sh28 rfl (row_pre (xs := frA na fa nc fc A) (ys := [.int .i64 bad]) (hbf.step s' (fun e => e.elim (fun e => e.elim) (fun e => Nat.not_le.2 ltD_bf e)))) rfl) rfl rfl ?_
    refine RD.take 4 rfl (by kernel_rfl) (by kernel_rfl) (by kernel_rfl) (fun w' s' => .loadR ((mkN A n v x y).cells) sh69 rfl (hb_11.step s' (fun e => e.elim (fun e => e.elim) (fun e => Nat.not_le.2 ltD_b_11 e))).row rfl) rfl rfl ?_
    refine RD.all [5, 10] (by kernel_rfl) rfl (RDs.cons rfl ?_ (RDs.cons rfl ?_ (RDs.nil)))
    ·
      refine RL.call rfl ok43 (c_aMake A na fa nc fc (mkN A n v x y) hxo w9 hA.now hfc) rfl rfl ?_
      rintro _ w11 ⟨s12, hr2⟩
      obtain ⟨nb, fb, ncb, fcb, B, rB, eB, rfl, hnB, hfB, hiB, he0, he1⟩ := make_form hr2
      have szGM := G.size
      have d_hB_bf := neFt (w' := w11) dA hbf.lt
      have d_hB_b_11 := neFt (w' := w11) d_hA_b_11 hb_11.lt
      have hB := hA.ans hiB s12
      have G := G.trans s12.agr
      have hbf := hbf.sub s12
      have hA := hA.sub s12
      have hF := hF.sub s12
      have hb_11 := hb_11.sub s12
      have szD := Nat.le_trans szD s12.size
      refine RD.back s12.agr ?_
      refine RD.take 6 rfl (by kernel_rfl) (by kernel_rfl) (by kernel_rfl) (fun w' s' => .move rfl) rfl rfl ?_
      refine RD.take 7 rfl (by kernel_rfl) (by kernel_rfl) (by kernel_rfl) (fun w' s' => .extract rfl rfl) rfl rfl ?_
      refine RD.take 8 rfl (by kernel_rfl) (by kernel_rfl) (by kernel_rfl) (fun w' s' => .extract rfl rfl) rfl rfl ?_
      refine RD.take 9 rfl (by kernel_rfl) (by kernel_rfl) (by kernel_rfl) (fun w' s' => .extract rfl rfl) rfl rfl ?_
      refine RD.all [10] (by kernel_rfl) rfl (RDs.cons rfl ?_ (RDs.nil))
      refine RL.alloc ze28 rfl rfl (fun b_12 w_12 e_12 z_12 hb_12 s_12 => ?_)
      have fr_b_12 : w8.heap.size ≤ b_12 := by rw [e_12]; exact szD
      have nf__12 := hbf.ne e_12
      have n_11__12 := hb_11.ne e_12
      have d_hA_b_12 := hA.neNew e_12
      have d_hF_b_12 := hF.neNew e_12
      have d_hB_b_12 := hB.neNew e_12
      have geG_12 := agLe G e_12
      have G := G.trans s_12.agr
      have hbf := hbf.sub s_12
      have hA := hA.sub s_12
      have hF := hF.sub s_12
      have hb_11 := hb_11.sub s_12
      have szD := Nat.le_trans szD s_12.size
      have hB := hB.sub s_12
      refine RD.back s_12.agr ?_
      refine RD.all [11] (by kernel_rfl) rfl (RDs.cons rfl ?_ (RDs.nil))
      refine RL.store sh28 rfl rfl rfl hb_12 (by exact Nat.le_of_ble_eq_true rfl) (by rfl) rfl (fun w13 z13 hb_12 a13 => ?_)
      have G := agNew G a13 geG_12
      have hbf := hbf.upd a13 nf__12
      have hA := hA.updD a13 d_hA_b_12
      have hF := hF.updD a13 d_hF_b_12
      have hb_11 := hb_11.upd a13 n_11__12
      have szD := Nat.le_trans szD a13.size
      have hB := hB.updD a13 d_hB_b_12
      have hb_12 : Has w13 b_12 ([.slice nb B.nodes.length ncb, .slice fb B.free.length fcb]) _ := hb_12.now (by kernel_rfl)
      refine RD.backW rfl (a13.mono fun k _ e => e ▸ (.inr fr_b_12)) ?_
      refine RD.take 12 rfl (by kernel_rfl) (by kernel_rfl) (by kernel_rfl) (fun w' s' => .assign rfl) rfl rfl ?_
      refine RD.take 13 rfl (by kernel_rfl) (by kernel_rfl) (by kernel_rfl) (fun w' s' => .assign rfl) rfl rfl ?_
      refine RD.done (by kernel_rfl) (RC.back ?_)
      refine RC.seq ?_
      refine RC.seq ?_
      refine RC.region rfl ?_
      refine RL.ev (.move rfl) rfl rfl ?_
      refine RL.ev (.move rfl) rfl rfl ?_
      refine RL.ev (.nilCheck rfl) rfl rfl ?_
      refine RL.ev (.field0 fo80_1 rfl) rfl rfl ?_
      refine RL.store sh33 rfl rfl rfl hbf (by exact Nat.le_of_ble_eq_true rfl) (by rfl) rfl (fun w14 z14 hbf a14 => ?_)
      have G := G.trans a14
      have hA := hA.updD a14 dA
      have hb_11 := hb_11.upd a14 nf__11.symm
      have hB := hB.updD a14 d_hB_bf
      have hb_12 := hb_12.upd a14 nf__12.symm
      have hbf : Has w14 bf (frC na fa nc fc A eB) _ := hbf
      refine RL.nil (RC.back ?_)
      refine RC.seq ?_
      refine RC.region rfl ?_
      refine RL.ev (.move rfl) rfl rfl ?_
      refine RL.ev (.bin rfl rfl rfl) rfl rfl ?_
      refine RL.nil (RC.back ?_)
      refine RC.cond_dec rfl (fun h15 => ?_) (fun h15 => ?_)
      ·
        have he := h15
        refine RC.seq ?_
        refine RC.region rfl ?_
        refine RL.ev (.assign rfl) rfl rfl ?_
        refine RL.nil (RC.back ?_)
        refine RC.done (rs := [.tmp 10]) (vs := [_]) rfl rfl ⟨rfl, trivial⟩ ?_
        -- end 2
        obtain ⟨rfl, rfl, hcs⟩ := he1 he
        refine ⟨(A, eB), 0, _, rfl, .inr (.inr ?_), Fo.ft hbf hnc hfc hA hMb, G, fun k hk => .inl (hk.elim (fun e => e ▸ hCb) (hMC k))⟩
        rcases hcs with ⟨h1, h2⟩ | ⟨h1, h2, h3⟩
        · exact .inr ⟨hbad, h1, by rw [h2], rfl⟩
        · exact .inl ⟨hbad, h1, h2, by rw [h3], rfl⟩
      ·
        have he : eB = 0 := Decidable.not_not.1 h15
        refine RC.skip (RC.back ?_)
        refine RC.seq ?_
        refine RC.region rfl ?_
        refine RL.ev (.move rfl) rfl rfl ?_
        refine RL.ev (.loadR ([.slice nb B.nodes.length ncb, .slice fb B.free.length fcb]) sh28 rfl hb_12.row rfl) rfl rfl ?_
        refine RL.ev (.nilCheck rfl) rfl rfl ?_
        refine RL.ev (.field0 fo80_0 rfl) rfl rfl ?_
        refine RL.store sh28 rfl rfl rfl hbf (by exact Nat.le_of_ble_eq_true rfl) (by rfl) rfl (fun w16 z16 hbf a16 => ?_)
        have G := G.trans a16
        have hA := hA.updD a16 dA
        have hb_11 := hb_11.upd a16 nf__11.symm
        have hB := hB.updD a16 d_hB_bf
        have hb_12 := hb_12.upd a16 nf__12.symm
        have hbf : Has w16 bf (frC nb fb ncb fcb B eB) _ := hbf
        refine RL.nil (RC.back ?_)
        refine RC.seq ?_
        refine RC.region rfl ?_
        refine RL.ev (.move rfl) rfl rfl ?_
        refine RL.ev (.assign rfl) rfl rfl ?_
        refine RL.nil (RC.back ?_)
        refine RC.done (rs := [.tmp 10]) (vs := [_]) rfl rfl ⟨rfl, trivial⟩ ?_
        -- end 3
        obtain ⟨h1, h2, h3, h4⟩ := he0 he
        exact ⟨(B, eB), rB, _, rfl, .inr (.inl ⟨hbad, h1, h2, by rw [he, h3], h4⟩), Fo.ft hbf hnB hfB hB (fun e => d_hB_bf _ e rfl), G, fun k hk => hk.elim (fun e => .inl (e ▸ hCb)) (fun e => e.elim (fun e => .inl (hMC k e)) (fun e => .inr (Nat.le_trans szGM e.1)))⟩
    ·
      refine RL.alloc ze28 rfl rfl (fun b_12 w_12 e_12 z_12 hb_12 s_12 => ?_)
      have fr_b_12 : w8.heap.size ≤ b_12 := by rw [e_12]; exact szD
      have nf__12 := hbf.ne e_12
      have n_11__12 := hb_11.ne e_12
      have d_hA_b_12 := hA.neNew e_12
      have d_hF_b_12 := hF.neNew e_12
      have geG_12 := agLe G e_12
      have G := G.trans s_12.agr
      have hbf := hbf.sub s_12
      have hA := hA.sub s_12
      have hF := hF.sub s_12
      have hb_11 := hb_11.sub s_12
      have szD := Nat.le_trans szD s_12.size
      refine RD.back s_12.agr ?_
      refine RD.all [5] (by kernel_rfl) rfl (RDs.cons rfl ?_ (RDs.nil))
      refine RL.call rfl ok43 (c_aMake A na fa nc fc (mkN A n v x y) hxo w_12 hA.now hfc) rfl rfl ?_
      rintro _ w17 ⟨s18, hr2⟩
      obtain ⟨nb, fb, ncb, fcb, B, rB, eB, rfl, hnB, hfB, hiB, he0, he1⟩ := make_form hr2
      have szGM := G.size
      have d_hB_bf := neFt (w' := w17) dA hbf.lt
      have d_hB_b_11 := neFt (w' := w17) d_hA_b_11 hb_11.lt
      have d_hB_b_12 := neFt (w' := w17) d_hA_b_12 hb_12.lt
      have hB := hA.ans hiB s18
      have G := G.trans s18.agr
      have hbf := hbf.sub s18
      have hA := hA.sub s18
      have hF := hF.sub s18
      have hb_11 := hb_11.sub s18
      have szD := Nat.le_trans szD s18.size
      have hb_12 := hb_12.sub s18
      refine RD.back s18.agr ?_
      refine RD.take 6 rfl (by kernel_rfl) (by kernel_rfl) (by kernel_rfl) (fun w' s' => .move rfl) rfl rfl ?_
      refine RD.take 7 rfl (by kernel_rfl) (by kernel_rfl) (by kernel_rfl) (fun w' s' => .extract rfl rfl) rfl rfl ?_
      refine RD.take 8 rfl (by kernel_rfl) (by kernel_rfl) (by kernel_rfl) (fun w' s' => .extract rfl rfl) rfl rfl ?_
      refine RD.take 9 rfl (by kernel_rfl) (by kernel_rfl) (by kernel_rfl) (fun w' s' => .extract rfl rfl) rfl rfl ?_
      refine RD.all [11] (by kernel_rfl) rfl (RDs.cons rfl ?_ (RDs.nil))
      refine RL.store sh28 rfl rfl rfl hb_12 (by exact Nat.le_of_ble_eq_true rfl) (by rfl) rfl (fun w19 z19 hb_12 a19 => ?_)
      have G := agNew G a19 geG_12
      have hbf := hbf.upd a19 nf__12
      have hA := hA.updD a19 d_hA_b_12
      have hF := hF.updD a19 d_hF_b_12
      have hb_11 := hb_11.upd a19 n_11__12
      have szD := Nat.le_trans szD a19.size
      have hB := hB.updD a19 d_hB_b_12
      have hb_12 : Has w19 b_12 ([.slice nb B.nodes.length ncb, .slice fb B.free.length fcb]) _ := hb_12.now (by kernel_rfl)
      refine RD.backW rfl (a19.mono fun k _ e => e ▸ (.inr fr_b_12)) ?_
      refine RD.take 12 rfl (by kernel_rfl) (by kernel_rfl) (by kernel_rfl) (fun w' s' => .assign rfl) rfl rfl ?_
      refine RD.take 13 rfl (by kernel_rfl) (by kernel_rfl) (by kernel_rfl) (fun w' s' => .assign rfl) rfl rfl ?_
      refine RD.done (by kernel_rfl) (RC.back ?_)
      refine RC.seq ?_
      refine RC.seq ?_
      refine RC.region rfl ?_
      refine RL.ev (.move rfl) rfl rfl ?_
      refine RL.ev (.move rfl) rfl rfl ?_
      refine RL.ev (.nilCheck rfl) rfl rfl ?_
      refine RL.ev (.field0 fo80_1 rfl) rfl rfl ?_
      refine RL.store sh33 rfl rfl rfl hbf (by exact Nat.le_of_ble_eq_true rfl) (by rfl) rfl (fun w20 z20 hbf a20 => ?_)
      have G := G.trans a20
      have hA := hA.updD a20 dA
      have hb_11 := hb_11.upd a20 nf__11.symm
      have hb_12 := hb_12.upd a20 nf__12.symm
      have hB := hB.updD a20 d_hB_bf
      have hbf : Has w20 bf (frC na fa nc fc A eB) _ := hbf
      refine RL.nil (RC.back ?_)
      refine RC.seq ?_
      refine RC.region rfl ?_
      refine RL.ev (.move rfl) rfl rfl ?_
      refine RL.ev (.bin rfl rfl rfl) rfl rfl ?_
      refine RL.nil (RC.back ?_)
      refine RC.cond_dec rfl (fun h21 => ?_) (fun h21 => ?_)
      ·
        have he := h21
        refine RC.seq ?_
        refine RC.region rfl ?_
        refine RL.ev (.assign rfl) rfl rfl ?_
        refine RL.nil (RC.back ?_)
        refine RC.done (rs := [.tmp 10]) (vs := [_]) rfl rfl ⟨rfl, trivial⟩ ?_
        -- end 4
        obtain ⟨rfl, rfl, hcs⟩ := he1 he
        refine ⟨(A, eB), 0, _, rfl, .inr (.inr ?_), Fo.ft hbf hnc hfc hA hMb, G, fun k hk => .inl (hk.elim (fun e => e ▸ hCb) (hMC k))⟩
        rcases hcs with ⟨h1, h2⟩ | ⟨h1, h2, h3⟩
        · exact .inr ⟨hbad, h1, by rw [h2], rfl⟩
        · exact .inl ⟨hbad, h1, h2, by rw [h3], rfl⟩
      ·
        have he : eB = 0 := Decidable.not_not.1 h21
        refine RC.skip (RC.back ?_)
        refine RC.seq ?_
        refine RC.region rfl ?_
        refine RL.ev (.move rfl) rfl rfl ?_
        refine RL.ev (.loadR ([.slice nb B.nodes.length ncb, .slice fb B.free.length fcb]) sh28 rfl hb_12.row rfl) rfl rfl ?_
        refine RL.ev (.nilCheck rfl) rfl rfl ?_
        refine RL.ev (.field0 fo80_0 rfl) rfl rfl ?_
        refine RL.store sh28 rfl rfl rfl hbf (by exact Nat.le_of_ble_eq_true rfl) (by rfl) rfl (fun w22 z22 hbf a22 => ?_)
        have G := G.trans a22
        have hA := hA.updD a22 dA
        have hb_11 := hb_11.upd a22 nf__11.symm
        have hb_12 := hb_12.upd a22 nf__12.symm
        have hB := hB.updD a22 d_hB_bf
        have hbf : Has w22 bf (frC nb fb ncb fcb B eB) _ := hbf
        refine RL.nil (RC.back ?_)
        refine RC.seq ?_
        refine RC.region rfl ?_
        refine RL.ev (.move rfl) rfl rfl ?_
        refine RL.ev (.assign rfl) rfl rfl ?_
        refine RL.nil (RC.back ?_)
        refine RC.done (rs := [.tmp 10]) (vs := [_]) rfl rfl ⟨rfl, trivial⟩ ?_
        -- end 5
        obtain ⟨h1, h2, h3, h4⟩ := he0 he
        exact ⟨(B, eB), rB, _, rfl, .inr (.inl ⟨hbad, h1, h2, by rw [he, h3], h4⟩), Fo.ft hbf hnB hfB hB (fun e => d_hB_bf _ e rfl), G, fun k hk => hk.elim (fun e => .inl (e ▸ hCb)) (fun e => e.elim (fun e => .inl (hMC k e)) (fun e => .inr (Nat.le_trans szGM e.1)))⟩
end Go.Proofs.Ytdmaogopibljoaa
