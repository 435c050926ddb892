/-
  What the law TopPairs leans on, part 6.
-/
import Derived.Test.YtbjmllnddanniaaGreatPTopPairs5
set_option linter.unusedVariables false
set_option linter.unusedSimpArgs false
namespace Go.Proofs.YtbjmllnddanniaaGreat
open Go Go.XL
def WdNew (n m : Nat) (u : World) (y : WdP) (x : RcP) : Prop := ArR u y.na y.fa (newA m) ∧ y.nn = (newA m).nodes.length ∧ y.nn ≤ y.nc ∧ y.fn = (newA m).free.length ∧ y.fn ≤ y.fc ∧ TbNew n u y.tb x ∧
  ∃ b1 b2, y.aa = some ⟨b1, 0, none⟩ ∧ y.an = n ∧ y.ac = n ∧ y.wa = some ⟨b2, 0, none⟩ ∧ y.wn = n ∧ y.wc = n ∧ Has u b1 (List.replicate n [i0, i0, i0, i0, i0]).flatten 297 ∧ Has u b2 (List.replicate n wk0).flatten 90
set_option maxHeartbeats 400000 in
theorem c_uNew (n m : Nat) (hn : 1 ≤ n ∧ n ≤ 8) (hm : 1 ≤ m ∧ m ≤ 512) (w : World) :
  FC Tryz.prog 116 [.int .i64 (n : Int), .int .i64 (m : Int)] w (fun v w' => Sub w w' ∧ ∃ y x M, v = .tuple #[.agg y.cells.toArray, .int .i64 0] ∧ UpN w M ∧ Ft M (fun u => WdNew n m u y x) w') := by
 refine FC.intro Tryz.func116 rfl Tryz.ntmps116 rfl ?_
 have S := Sub.refl w
 refine RC.seq (RC.region rfl ?_);refine RL.alloc ze63 rfl rfl (fun b_4 w_4 e_4 z_4 hb_4 s_4 => ?_);have ge_4 := S.le e_4;have S := S.trans s_4;refine RL.asS rfl ?_;refine RL.nil (RC.back (RC.seq (RC.region rfl ?_)));refine RL.mvS rfl ?_;refine RL.call rfl ok189 (c_tNew n hn w_4) rfl rfl ?_;rintro _ w1 ⟨s2, t, x, M, rfl, up, h1⟩;have d_h1_b_4 := upNe up (fun _ (h : False) => h.elim) hb_4.lt
 have up := up.low S.size
 have S := S.trans s2;have hb_4 := hb_4.sub s2;refine RL.mvS rfl ?_;refine RL.eS (.extract rfl rfl) ?_;refine RL.eS (.extract rfl rfl) ?_;refine RL.alloc ze59 rfl rfl (fun b_6 w_6 e_6 z_6 hb_6 s_6 => ?_);have ge_6 := S.le e_6;have n_4__6 := hb_4.ne e_6;have d_h1_b_6 := h1.neNew e_6;have S := S.trans s_6;have hb_4 := hb_4.sub s_6;have h1 := h1.sub s_6;refine RL.stS sh59 rfl rfl rfl hb_6 (fun w3 z3 hb_6 a3 => ?_);have S := S.upd a3 ge_6;have hb_4 := hb_4.upd a3 n_4__6;have h1 := h1.updD a3 d_h1_b_6
 have hb_6 : Has w3 b_6 (t.cells) _ := hb_6.now (by kernel_rfl)
 refine RL.asS rfl ?_;refine RL.nil (RC.back (RC.seq (RC.seq (RC.region rfl ?_))));refine RL.mvS rfl ?_;refine RL.eS (.bin rfl rfl rfl) ?_;refine RL.nil (RC.back ?_);refine RC.cond_dec rfl (fun h4 => ?_) (fun h4 => ?_)
 ·
  exact absurd rfl h4
 ·
  refine RC.skip (RC.back (RC.seq (RC.region rfl ?_)));refine RL.mvS rfl ?_;refine RL.call rfl ok10 (c_aNew m hm w3) rfl rfl ?_;rintro _ w5 ⟨na, fa, nc, fc, rfl, hnc, hfc, hi, s6⟩
  have up2 := Mnew_up s6
  have h2 := Ft.new hi s6
  have d_h2_b_4 := upNe up2 (fun _ (h : False) => h.elim) hb_4.lt
  have up2 := up2.low S.size
  have S := S.trans s6;have hb_4 := hb_4.sub s6;have h1 := h1.sub s6;have hb_6 := hb_6.sub s6;refine RL.mvS rfl ?_;refine RL.eS (.extract rfl rfl) ?_;refine RL.eS (.extract rfl rfl) ?_;refine RL.alloc ze26 rfl rfl (fun b_8 w_8 e_8 z_8 hb_8 s_8 => ?_);have ge_8 := S.le e_8;have n_4__8 := hb_4.ne e_8;have n_6__8 := hb_6.ne e_8;have d_h1_b_8 := h1.neNew e_8;have d_h2_b_8 := h2.neNew e_8;have S := S.trans s_8;have hb_4 := hb_4.sub s_8;have h1 := h1.sub s_8;have hb_6 := hb_6.sub s_8;have h2 := h2.sub s_8;refine RL.stS sh26 rfl rfl rfl hb_8 (fun w7 z7 hb_8 a7 => ?_);have S := S.upd a7 ge_8;have hb_4 := hb_4.upd a7 n_4__8;have h1 := h1.updD a7 d_h1_b_8;have hb_6 := hb_6.upd a7 n_6__8;have h2 := h2.updD a7 d_h2_b_8
  have hb_8 : Has w7 b_8 ([.slice na (newA m).nodes.length nc, .slice fa (newA m).free.length fc]) _ := hb_8.now (by kernel_rfl)
  refine RL.asS rfl ?_;refine RL.nil (RC.back (RC.seq (RC.seq (RC.region rfl ?_))));refine RL.mvS rfl ?_;refine RL.eS (.bin rfl rfl rfl) ?_;refine RL.nil (RC.back ?_);refine RC.cond_dec rfl (fun h8 => ?_) (fun h8 => ?_)
  ·
   exact absurd rfl h8
  ·
   refine RC.skip (RC.back (RC.seq ?_));refine RC.drawD (fun k => k = b_4) [7] w7.heap.size 9 rfl rfl mxo (fun w9 s10 => ?_)
   have hNN : ∀ k, ((k = b_4) ∨ w7.heap.size ≤ k) → w.heap.size ≤ k := fun k e => e.elim (fun e => e ▸ ge_4) (fun e => Nat.le_trans S.size e)
   have hN0 : ∀ k, w7.heap.size ≤ k → w.heap.size ≤ k := fun k e => Nat.le_trans S.size e
   have ltD_b_6 := hb_6.lt;have ltD_b_8 := hb_8.lt;have szD := Nat.le_refl w7.heap.size;have S := S.trans s10;have hb_4 := hb_4.sub s10;have h1 := h1.sub s10;have hb_6 := hb_6.sub s10;have h2 := h2.sub s10;have hb_8 := hb_8.sub s10;have szD := Nat.le_trans szD s10.size;refine RD.tS 0 rfl (fun w' s' => .loadR ([.slice na (newA m).nodes.length nc, .slice fa (newA m).free.length fc]) sh26 rfl (hb_8.step s' (fun e => e.elim (fun e => n_4__8.symm e) (fun e => Nat.not_le.2 ltD_b_8 e))).row rfl) ?_;refine RD.tS 1 rfl (fun w' s' => .loadR (t.cells) sh59 rfl (hb_6.step s' (fun e => e.elim (fun e => n_4__6.symm e) (fun e => Nat.not_le.2 ltD_b_6 e))).row rfl) ?_;refine RD.tS 2 rfl (fun w' s' => .move rfl) ?_;refine RD.tS 4 rfl (fun w' s' => .move rfl) ?_;refine RD.all [3, 5] (by kernel_rfl) rfl (RDs.cons rfl ?_ (RDs.cons rfl ?_ (RDs.nil)))
   ·
    refine RL.makeSlice sl60 ze297 rfl rfl rfl rfl (by omega) rfl rfl (fun b_30 w_30 e_30 z_30 hb_30 s_30 => ?_)
    have fr_b_30 : w7.heap.size ≤ b_30 := by rw [e_30]; exact szD
    have ge_30 := S.le e_30;have n_4__30 := hb_4.ne e_30;have S := S.trans s_30;have hb_4 := hb_4.sub s_30;have h1 := h1.sub s_30;have h2 := h2.sub s_30;have szD := Nat.le_trans szD s_30.size
    have hb_30 : Has w_30 b_30 (List.replicate n [i0, i0, i0, i0, i0]).flatten 297 := (by have := hb_30; rw [Int.toNat_natCast] at this; exact this)
    refine RD.back s_30.agr ?_;refine RD.oneS 5 rfl ?_;refine RL.makeSlice sl61 ze90 rfl rfl rfl rfl (by omega) rfl rfl (fun b_32 w_32 e_32 z_32 hb_32 s_32 => ?_)
    have fr_b_32 : w7.heap.size ≤ b_32 := by rw [e_32]; exact szD
    have ge_32 := S.le e_32;have n_4__32 := hb_4.ne e_32;have S := S.trans s_32;have hb_4 := hb_4.sub s_32;have h1 := h1.sub s_32;have h2 := h2.sub s_32;have szD := Nat.le_trans szD s_32.size;have hb_30 := hb_30.sub s_32
    have hb_32 : Has w_32 b_32 (List.replicate n wk0).flatten 90 := (by have := hb_32; rw [Int.toNat_natCast] at this; exact this)
    refine RD.back s_32.agr ?_;refine RD.tS 6 rfl (fun w' s' => .buildS (vs := [(0, .agg #[.slice na (newA m).nodes.length nc, .slice fa (newA m).free.length fc]), (1, .agg t.cells.toArray), (2, .slice (some ⟨b_30, 0, none⟩) n n), (3, .slice (some ⟨b_32, 0, none⟩) n n)]) (cs := ((⟨na, (newA m).nodes.length, nc, fa, (newA m).free.length, fc, t, some ⟨b_30, 0, none⟩, n, n, some ⟨b_32, 0, none⟩, n, n⟩ : WdP).cells).toArray) ze63 pl63 rfl (by kernel_rfl)) ?_;refine RD.oneS 7 rfl ?_;refine RL.stS sh63 rfl rfl rfl hb_4 (fun w11 z11 hb_4 a11 => ?_);have S := S.upd a11 ge_4;have h1 := h1.updD a11 d_h1_b_4;have h2 := h2.updD a11 d_h2_b_4;have szD := Nat.le_trans szD a11.size;have hb_30 := hb_30.upd a11 n_4__30.symm;have hb_32 := hb_32.upd a11 n_4__32.symm
    have hb_4 : Has w11 b_4 ((⟨na, (newA m).nodes.length, nc, fa, (newA m).free.length, fc, t, some ⟨b_30, 0, none⟩, n, n, some ⟨b_32, 0, none⟩, n, n⟩ : WdP).cells) _ := hb_4.now (by kernel_rfl)
    refine RD.backW rfl (a11.mono fun k _ e => e ▸ (.inl (rfl))) ?_;refine RD.tS 8 rfl (fun w' s' => .assign rfl) ?_;refine RD.done (by kernel_rfl) (RC.back ?_);refine RC.done (rs := [.cell 4 63, .tmp 5]) (vs := [_, _]) rfl rfl ⟨⟨_, rfl, .inr ⟨(⟨na, (newA m).nodes.length, nc, fa, (newA m).free.length, fc, t, some ⟨b_30, 0, none⟩, n, n, some ⟨b_32, 0, none⟩, n, n⟩ : WdP).cells, sh63, hb_4.row, rfl⟩⟩, rfl, trivial⟩ ?_
    exact ⟨S, _, x, _, rfl, (UpN.one ge_30).or ((UpN.one ge_32).or (up.or up2)), (hb_30.ft.and (hb_32.ft.and (h1.and h2))).imp fun u h => ⟨h.2.2.2, rfl, hnc, rfl, hfc, h.2.2.1, b_30, b_32, rfl, rfl, rfl, rfl, rfl, rfl, h.1, h.2.1⟩⟩
   ·
    refine RL.makeSlice sl61 ze90 rfl rfl rfl rfl (by omega) rfl rfl (fun b_32 w_32 e_32 z_32 hb_32 s_32 => ?_)
    have fr_b_32 : w7.heap.size ≤ b_32 := by rw [e_32]; exact szD
    have ge_32 := S.le e_32;have n_4__32 := hb_4.ne e_32;have S := S.trans s_32;have hb_4 := hb_4.sub s_32;have h1 := h1.sub s_32;have h2 := h2.sub s_32;have szD := Nat.le_trans szD s_32.size
    have hb_32 : Has w_32 b_32 (List.replicate n wk0).flatten 90 := (by have := hb_32; rw [Int.toNat_natCast] at this; exact this)
    refine RD.back s_32.agr ?_;refine RD.oneS 3 rfl ?_;refine RL.makeSlice sl60 ze297 rfl rfl rfl rfl (by omega) rfl rfl (fun b_30 w_30 e_30 z_30 hb_30 s_30 => ?_)
    have fr_b_30 : w7.heap.size ≤ b_30 := by rw [e_30]; exact szD
    have ge_30 := S.le e_30;have n_4__30 := hb_4.ne e_30;have S := S.trans s_30;have hb_4 := hb_4.sub s_30;have h1 := h1.sub s_30;have h2 := h2.sub s_30;have hb_32 := hb_32.sub s_30
    have hb_30 : Has w_30 b_30 (List.replicate n [i0, i0, i0, i0, i0]).flatten 297 := (by have := hb_30; rw [Int.toNat_natCast] at this; exact this)
    refine RD.back s_30.agr ?_;refine RD.tS 6 rfl (fun w' s' => .buildS (vs := [(0, .agg #[.slice na (newA m).nodes.length nc, .slice fa (newA m).free.length fc]), (1, .agg t.cells.toArray), (2, .slice (some ⟨b_30, 0, none⟩) n n), (3, .slice (some ⟨b_32, 0, none⟩) n n)]) (cs := ((⟨na, (newA m).nodes.length, nc, fa, (newA m).free.length, fc, t, some ⟨b_30, 0, none⟩, n, n, some ⟨b_32, 0, none⟩, n, n⟩ : WdP).cells).toArray) ze63 pl63 rfl (by kernel_rfl)) ?_;refine RD.oneS 7 rfl ?_;refine RL.stS sh63 rfl rfl rfl hb_4 (fun w12 z12 hb_4 a12 => ?_);have S := S.upd a12 ge_4;have h1 := h1.updD a12 d_h1_b_4;have h2 := h2.updD a12 d_h2_b_4;have hb_32 := hb_32.upd a12 n_4__32.symm;have hb_30 := hb_30.upd a12 n_4__30.symm
    have hb_4 : Has w12 b_4 ((⟨na, (newA m).nodes.length, nc, fa, (newA m).free.length, fc, t, some ⟨b_30, 0, none⟩, n, n, some ⟨b_32, 0, none⟩, n, n⟩ : WdP).cells) _ := hb_4.now (by kernel_rfl)
    refine RD.backW rfl (a12.mono fun k _ e => e ▸ (.inl (rfl))) ?_;refine RD.tS 8 rfl (fun w' s' => .assign rfl) ?_;refine RD.done (by kernel_rfl) (RC.back ?_);refine RC.done (rs := [.cell 4 63, .tmp 5]) (vs := [_, _]) rfl rfl ⟨⟨_, rfl, .inr ⟨(⟨na, (newA m).nodes.length, nc, fa, (newA m).free.length, fc, t, some ⟨b_30, 0, none⟩, n, n, some ⟨b_32, 0, none⟩, n, n⟩ : WdP).cells, sh63, hb_4.row, rfl⟩⟩, rfl, trivial⟩ ?_
    exact ⟨S, _, x, _, rfl, (UpN.one ge_30).or ((UpN.one ge_32).or (up.or up2)), (hb_30.ft.and (hb_32.ft.and (h1.and h2))).imp fun u h => ⟨h.2.2.2, rfl, hnc, rfl, hfc, h.2.2.1, b_30, b_32, rfl, rfl, rfl, rfl, rfl, rfl, h.1, h.2.1⟩⟩
def StNew (n m : Nat) (u : World) (z : StP) (x : RcP) : Prop := WdNew n m u z.wd x ∧ z.time = 0 ∧ z.la = none ∧ z.ln = 0 ∧ z.lc = 0 ∧
  ∃ b1 b2, z.ia = some ⟨b1, 0, none⟩ ∧ z.inn = n ∧ z.ic = n ∧ z.ca = some ⟨b2, 0, none⟩ ∧ z.cn = 8 ∧ z.cc = 8 ∧ Has u b1 (List.replicate n [i0]).flatten 3 ∧ Has u b2 (List.replicate 8 ([.int .u64 0, i0, i0, .bool true] : List Value)).flatten 97
set_option maxHeartbeats 400000 in
theorem c_sNew (n m : Nat) (hn : 1 ≤ n ∧ n ≤ 8) (hm : 1 ≤ m ∧ m ≤ 512) (w : World) :
  FC Tryz.prog 56 [.int .i64 (n : Int), .int .i64 (m : Int)] w (fun v w' => Sub w w' ∧ ∃ z x M, v = .tuple #[.agg z.cells.toArray, .int .i64 0] ∧ UpN w M ∧ Ft M (fun u => StNew n m u z x) w') := by
 refine FC.intro Tryz.func56 rfl Tryz.ntmps56 rfl ?_
 have S := Sub.refl w
 refine RC.seq (RC.region rfl ?_);refine RL.alloc ze67 rfl rfl (fun b_4 w_4 e_4 z_4 hb_4 s_4 => ?_);have ge_4 := S.le e_4;have S := S.trans s_4;refine RL.asS rfl ?_;refine RL.nil (RC.back (RC.seq (RC.region rfl ?_)));refine RL.mvS rfl ?_;refine RL.mvS rfl ?_;refine RL.call rfl ok116 (c_uNew n m hn hm w_4) rfl rfl ?_;rintro _ w1 ⟨s2, y, x, M, rfl, up, h1⟩;have d_h1_b_4 := upNe up (fun _ (h : False) => h.elim) hb_4.lt
 have up := up.low S.size
 have S := S.trans s2;have hb_4 := hb_4.sub s2;refine RL.mvS rfl ?_;refine RL.eS (.extract rfl rfl) ?_;refine RL.eS (.extract rfl rfl) ?_;refine RL.alloc ze63 rfl rfl (fun b_6 w_6 e_6 z_6 hb_6 s_6 => ?_);have ge_6 := S.le e_6;have n_4__6 := hb_4.ne e_6;have d_h1_b_6 := h1.neNew e_6;have S := S.trans s_6;have hb_4 := hb_4.sub s_6;have h1 := h1.sub s_6;refine RL.stS sh63 rfl rfl rfl hb_6 (fun w3 z3 hb_6 a3 => ?_);have S := S.upd a3 ge_6;have hb_4 := hb_4.upd a3 n_4__6;have h1 := h1.updD a3 d_h1_b_6
 have hb_6 : Has w3 b_6 (y.cells) _ := hb_6.now (by kernel_rfl)
 refine RL.asS rfl ?_;refine RL.nil (RC.back (RC.seq (RC.seq (RC.region rfl ?_))));refine RL.mvS rfl ?_;refine RL.eS (.bin rfl rfl rfl) ?_;refine RL.nil (RC.back ?_);refine RC.cond_dec rfl (fun h4 => ?_) (fun h4 => ?_)
 ·
  exact absurd rfl h4
 ·
  refine RC.skip (RC.back (RC.seq ?_));refine RC.drawD (fun k => k = b_4) [7] w3.heap.size 9 rfl rfl mxo (fun w5 s6 => ?_)
  have hNN : ∀ k, ((k = b_4) ∨ w3.heap.size ≤ k) → w.heap.size ≤ k := fun k e => e.elim (fun e => e ▸ ge_4) (fun e => Nat.le_trans S.size e)
  have hN0 : ∀ k, w3.heap.size ≤ k → w.heap.size ≤ k := fun k e => Nat.le_trans S.size e
  have ltD_b_6 := hb_6.lt;have szD := Nat.le_refl w3.heap.size;have S := S.trans s6;have hb_4 := hb_4.sub s6;have h1 := h1.sub s6;have hb_6 := hb_6.sub s6;have szD := Nat.le_trans szD s6.size;refine RD.tS 0 rfl (fun w' s' => .loadR (y.cells) sh63 rfl (hb_6.step s' (fun e => e.elim (fun e => n_4__6.symm e) (fun e => Nat.not_le.2 ltD_b_6 e))).row rfl) ?_;refine RD.tS 1 rfl (fun w' s' => .move rfl) ?_;refine RD.tS 3 rfl (fun w' s' => .buildS ze97 pl97 rfl rfl) ?_;refine RD.all [2, 4] (by kernel_rfl) rfl (RDs.cons rfl ?_ (RDs.cons rfl ?_ (RDs.nil)))
  ·
   refine RL.makeSlice sl24 ze3 rfl rfl rfl rfl (by omega) rfl rfl (fun b_20 w_20 e_20 z_20 hb_20 s_20 => ?_)
   have fr_b_20 : w3.heap.size ≤ b_20 := by rw [e_20]; exact szD
   have ge_20 := S.le e_20;have n_4__20 := hb_4.ne e_20;have S := S.trans s_20;have hb_4 := hb_4.sub s_20;have h1 := h1.sub s_20;have szD := Nat.le_trans szD s_20.size
   have hb_20 : Has w_20 b_20 (List.replicate n [i0]).flatten 3 := (by have := hb_20; rw [Int.toNat_natCast] at this; exact this)
   refine RD.back s_20.agr ?_;refine RD.oneS 4 rfl ?_;refine RL.buildSlice1 sl65 _ ze97 rfl rfl rfl rfl rfl rfl rfl (fun b_22 w_22 e_22 z_22 hb_22 s_22 => ?_)
   have fr_b_22 : w3.heap.size ≤ b_22 := by rw [e_22]; exact szD
   have n_4__22 := hb_4.ne e_22;have S := S.trans s_22;have hb_4 := hb_4.sub s_22;have h1 := h1.sub s_22;have szD := Nat.le_trans szD s_22.size;have hb_20 := hb_20.sub s_22;refine RD.back s_22.agr ?_;refine RD.oneS 5 rfl ?_;refine RL.call rfl ok117 (c_repC 8 (by omega) b_22 w_22 hb_22) rfl rfl ?_;rintro _ w7 ⟨s8, b3, rfl, ge3, h3⟩
   have n3_4 : b3 ≠ b_4 := (by have := hb_4.lt; omega)
   have ge3 := Nat.le_trans S.size ge3
   have S := S.trans s8;have hb_4 := hb_4.sub s8;have h1 := h1.sub s8;have szD := Nat.le_trans szD s8.size;have hb_20 := hb_20.sub s8;have hb_22 := hb_22.sub s8;refine RD.back s8.agr ?_;refine RD.tS 6 rfl (fun w' s' => .buildS (vs := [(0, .agg y.cells.toArray), (2, .slice (some ⟨b_20, 0, none⟩) n n), (4, .slice (some ⟨b3, 0, none⟩) 8 8)]) (cs := ((⟨y, 0, some ⟨b_20, 0, none⟩, n, n, none, 0, 0, some ⟨b3, 0, none⟩, 8, 8⟩ : StP).cells).toArray) ze67 pl67 rfl (by kernel_rfl)) ?_;refine RD.oneS 7 rfl ?_;refine RL.stS sh67 rfl rfl rfl hb_4 (fun w9 z9 hb_4 a9 => ?_);have S := S.upd a9 ge_4;have h1 := h1.updD a9 d_h1_b_4;have szD := Nat.le_trans szD a9.size;have hb_20 := hb_20.upd a9 n_4__20.symm;have hb_22 := hb_22.upd a9 n_4__22.symm;have h3 := h3.upd a9 n3_4
   have hb_4 : Has w9 b_4 ((⟨y, 0, some ⟨b_20, 0, none⟩, n, n, none, 0, 0, some ⟨b3, 0, none⟩, 8, 8⟩ : StP).cells) _ := hb_4.now (by kernel_rfl)
   refine RD.backW rfl (a9.mono fun k _ e => e ▸ (.inl (rfl))) ?_;refine RD.tS 8 rfl (fun w' s' => .assign rfl) ?_;refine RD.done (by kernel_rfl) (RC.back ?_);refine RC.done (rs := [.cell 4 67, .tmp 5]) (vs := [_, _]) rfl rfl ⟨⟨_, rfl, .inr ⟨(⟨y, 0, some ⟨b_20, 0, none⟩, n, n, none, 0, 0, some ⟨b3, 0, none⟩, 8, 8⟩ : StP).cells, sh67, hb_4.row, rfl⟩⟩, rfl, trivial⟩ ?_
   exact ⟨S, _, x, _, rfl, (UpN.one ge_20).or ((UpN.one ge3).or up), (hb_20.ft.and (h3.ft.and h1)).imp fun u h => ⟨h.2.2, rfl, rfl, rfl, rfl, b_20, b3, rfl, rfl, rfl, rfl, rfl, rfl, h.1, h.2.1⟩⟩
  ·
   refine RL.buildSlice1 sl65 _ ze97 rfl rfl rfl rfl rfl rfl rfl (fun b_22 w_22 e_22 z_22 hb_22 s_22 => ?_)
   have fr_b_22 : w3.heap.size ≤ b_22 := by rw [e_22]; exact szD
   have n_4__22 := hb_4.ne e_22;have S := S.trans s_22;have hb_4 := hb_4.sub s_22;have h1 := h1.sub s_22;have szD := Nat.le_trans szD s_22.size;refine RD.back s_22.agr ?_;refine RD.all [2, 5] (by kernel_rfl) rfl (RDs.cons rfl ?_ (RDs.cons rfl ?_ (RDs.nil)))
   ·
    refine RL.makeSlice sl24 ze3 rfl rfl rfl rfl (by omega) rfl rfl (fun b_20 w_20 e_20 z_20 hb_20 s_20 => ?_)
    have fr_b_20 : w3.heap.size ≤ b_20 := by rw [e_20]; exact szD
    have ge_20 := S.le e_20;have n_4__20 := hb_4.ne e_20;have S := S.trans s_20;have hb_4 := hb_4.sub s_20;have h1 := h1.sub s_20;have szD := Nat.le_trans szD s_20.size;have hb_22 := hb_22.sub s_20
    have hb_20 : Has w_20 b_20 (List.replicate n [i0]).flatten 3 := (by have := hb_20; rw [Int.toNat_natCast] at this; exact this)
    refine RD.back s_20.agr ?_;refine RD.oneS 5 rfl ?_;refine RL.call rfl ok117 (c_repC 8 (by omega) b_22 w_20 hb_22) rfl rfl ?_;rintro _ w10 ⟨s11, b3, rfl, ge3, h3⟩
    have n3_4 : b3 ≠ b_4 := (by have := hb_4.lt; omega)
    have ge3 := Nat.le_trans S.size ge3
    have S := S.trans s11;have hb_4 := hb_4.sub s11;have h1 := h1.sub s11;have szD := Nat.le_trans szD s11.size;have hb_22 := hb_22.sub s11;have hb_20 := hb_20.sub s11;refine RD.back s11.agr ?_;refine RD.tS 6 rfl (fun w' s' => .buildS (vs := [(0, .agg y.cells.toArray), (2, .slice (some ⟨b_20, 0, none⟩) n n), (4, .slice (some ⟨b3, 0, none⟩) 8 8)]) (cs := ((⟨y, 0, some ⟨b_20, 0, none⟩, n, n, none, 0, 0, some ⟨b3, 0, none⟩, 8, 8⟩ : StP).cells).toArray) ze67 pl67 rfl (by kernel_rfl)) ?_;refine RD.oneS 7 rfl ?_;refine RL.stS sh67 rfl rfl rfl hb_4 (fun w12 z12 hb_4 a12 => ?_);have S := S.upd a12 ge_4;have h1 := h1.updD a12 d_h1_b_4;have szD := Nat.le_trans szD a12.size;have hb_22 := hb_22.upd a12 n_4__22.symm;have hb_20 := hb_20.upd a12 n_4__20.symm;have h3 := h3.upd a12 n3_4
    have hb_4 : Has w12 b_4 ((⟨y, 0, some ⟨b_20, 0, none⟩, n, n, none, 0, 0, some ⟨b3, 0, none⟩, 8, 8⟩ : StP).cells) _ := hb_4.now (by kernel_rfl)
    refine RD.backW rfl (a12.mono fun k _ e => e ▸ (.inl (rfl))) ?_;refine RD.tS 8 rfl (fun w' s' => .assign rfl) ?_;refine RD.done (by kernel_rfl) (RC.back ?_);refine RC.done (rs := [.cell 4 67, .tmp 5]) (vs := [_, _]) rfl rfl ⟨⟨_, rfl, .inr ⟨(⟨y, 0, some ⟨b_20, 0, none⟩, n, n, none, 0, 0, some ⟨b3, 0, none⟩, 8, 8⟩ : StP).cells, sh67, hb_4.row, rfl⟩⟩, rfl, trivial⟩ ?_
    exact ⟨S, _, x, _, rfl, (UpN.one ge_20).or ((UpN.one ge3).or up), (hb_20.ft.and (h3.ft.and h1)).imp fun u h => ⟨h.2.2, rfl, rfl, rfl, rfl, b_20, b3, rfl, rfl, rfl, rfl, rfl, rfl, h.1, h.2.1⟩⟩
   ·
    refine RL.call rfl ok117 (c_repC 8 (by omega) b_22 w_22 hb_22) rfl rfl ?_;rintro _ w13 ⟨s14, b3, rfl, ge3, h3⟩
    have n3_4 : b3 ≠ b_4 := (by have := hb_4.lt; omega)
    have ge3 := Nat.le_trans S.size ge3
    have S := S.trans s14;have hb_4 := hb_4.sub s14;have h1 := h1.sub s14;have szD := Nat.le_trans szD s14.size;refine RD.back s14.agr ?_;refine RD.oneS 2 rfl ?_;refine RL.makeSlice sl24 ze3 rfl rfl rfl rfl (by omega) rfl rfl (fun b_20 w_20 e_20 z_20 hb_20 s_20 => ?_)
    have fr_b_20 : w3.heap.size ≤ b_20 := by rw [e_20]; exact szD
    have ge_20 := S.le e_20;have n_4__20 := hb_4.ne e_20
    have n3__20 := h3.ne e_20
    have S := S.trans s_20;have hb_4 := hb_4.sub s_20;have h1 := h1.sub s_20;have h3 := h3.sub s_20
    have hb_20 : Has w_20 b_20 (List.replicate n [i0]).flatten 3 := (by have := hb_20; rw [Int.toNat_natCast] at this; exact this)
    refine RD.back s_20.agr ?_;refine RD.tS 6 rfl (fun w' s' => .buildS (vs := [(0, .agg y.cells.toArray), (2, .slice (some ⟨b_20, 0, none⟩) n n), (4, .slice (some ⟨b3, 0, none⟩) 8 8)]) (cs := ((⟨y, 0, some ⟨b_20, 0, none⟩, n, n, none, 0, 0, some ⟨b3, 0, none⟩, 8, 8⟩ : StP).cells).toArray) ze67 pl67 rfl (by kernel_rfl)) ?_;refine RD.oneS 7 rfl ?_;refine RL.stS sh67 rfl rfl rfl hb_4 (fun w15 z15 hb_4 a15 => ?_);have S := S.upd a15 ge_4;have h1 := h1.updD a15 d_h1_b_4;have h3 := h3.upd a15 n3_4;have hb_20 := hb_20.upd a15 n_4__20.symm
    have hb_4 : Has w15 b_4 ((⟨y, 0, some ⟨b_20, 0, none⟩, n, n, none, 0, 0, some ⟨b3, 0, none⟩, 8, 8⟩ : StP).cells) _ := hb_4.now (by kernel_rfl)
    refine RD.backW rfl (a15.mono fun k _ e => e ▸ (.inl (rfl))) ?_;refine RD.tS 8 rfl (fun w' s' => .assign rfl) ?_;refine RD.done (by kernel_rfl) (RC.back ?_);refine RC.done (rs := [.cell 4 67, .tmp 5]) (vs := [_, _]) rfl rfl ⟨⟨_, rfl, .inr ⟨(⟨y, 0, some ⟨b_20, 0, none⟩, n, n, none, 0, 0, some ⟨b3, 0, none⟩, 8, 8⟩ : StP).cells, sh67, hb_4.row, rfl⟩⟩, rfl, trivial⟩ ?_
    exact ⟨S, _, x, _, rfl, (UpN.one ge_20).or ((UpN.one ge3).or up), (hb_20.ft.and (h3.ft.and h1)).imp fun u h => ⟨h.2.2, rfl, rfl, rfl, rfl, b_20, b3, rfl, rfl, rfl, rfl, rfl, rfl, h.1, h.2.1⟩⟩
theorem StNew.lens {n m : Nat} {u : World} {z : StP} {x : RcP} (h : StNew n m u z x) : z.wd.wn = n ∧ z.cn = 8 ∧ z.wd.tb.rn = 1 ∧ x.rt = rt0 := by
  obtain ⟨⟨_, _, _, _, _, ⟨b3, b4, b5, ht, _, _, _, b6, b7, hx, _⟩, b1, b2, _, _, _, _, h1, _⟩, _, _, _, _, b8, b9, _, _, _, _, h2, _⟩ := h
  exact ⟨h1, h2, by rw [ht], by rw [hx]⟩
theorem c_begin (n m : Nat) (hn : 1 ≤ n ∧ n ≤ 8) (hm : 1 ≤ m ∧ m ≤ 512) (w : World) :
  FC Tryz.prog 18 [.int .i64 (n : Int), .int .i64 (m : Int)] w (fun v w' => Sub w w' ∧ ∃ z x M, v = .tuple #[.agg z.cells.toArray, .bool true] ∧ UpN w M ∧ Ft M (fun u => StNew n m u z x) w') := by
 refine FC.intro Tryz.func18 rfl Tryz.ntmps18 rfl ?_
 have S := Sub.refl w
 refine RC.seq (RC.region rfl ?_);refine RL.alloc ze67 rfl rfl (fun b_4 w_4 e_4 z_4 hb_4 s_4 => ?_);have ge_4 := S.le e_4;have S := S.trans s_4;refine RL.asS rfl ?_;refine RL.nil (RC.back (RC.seq (RC.region rfl ?_)));refine RL.mvS rfl ?_;refine RL.mvS rfl ?_;refine RL.call rfl ok56 (c_sNew n m hn hm w_4) rfl rfl ?_;rintro _ w1 ⟨s2, z, x, M, rfl, up, h1⟩;have d_h1_b_4 := upNe up (fun _ (h : False) => h.elim) hb_4.lt
 have up := up.low S.size
 have hl := h1.now.lens
 have S := S.trans s2;have hb_4 := hb_4.sub s2;refine RL.mvS rfl ?_;refine RL.eS (.extract rfl rfl) ?_;refine RL.eS (.extract rfl rfl) ?_;refine RL.alloc ze67 rfl rfl (fun b_6 w_6 e_6 z_6 hb_6 s_6 => ?_);have ge_6 := S.le e_6;have n_4__6 := hb_4.ne e_6;have d_h1_b_6 := h1.neNew e_6;have S := S.trans s_6;have hb_4 := hb_4.sub s_6;have h1 := h1.sub s_6;refine RL.stS sh67 rfl rfl rfl hb_6 (fun w3 z3 hb_6 a3 => ?_);have S := S.upd a3 ge_6;have hb_4 := hb_4.upd a3 n_4__6;have h1 := h1.updD a3 d_h1_b_6
 have hb_6 : Has w3 b_6 (z.cells) _ := hb_6.now (by kernel_rfl)
 refine RL.asS rfl ?_;refine RL.nil (RC.back (RC.seq ?_));refine RC.drawD (fun k => k = b_4) [25] w3.heap.size 27 rfl rfl mxo (fun w4 s5 => ?_)
 have hNN : ∀ k, ((k = b_4) ∨ w3.heap.size ≤ k) → w.heap.size ≤ k := fun k e => e.elim (fun e => e ▸ ge_4) (fun e => Nat.le_trans S.size e)
 have hN0 : ∀ k, w3.heap.size ≤ k → w.heap.size ≤ k := fun k e => Nat.le_trans S.size e
 have ltD_b_6 := hb_6.lt;have S := S.trans s5;have hb_4 := hb_4.sub s5;have h1 := h1.sub s5;have hb_6 := hb_6.sub s5;refine RD.tS 0 rfl (fun w' s' => .loadR (z.cells) sh67 rfl (hb_6.step s' (fun e => e.elim (fun e => n_4__6.symm e) (fun e => Nat.not_le.2 ltD_b_6 e))).row rfl) ?_;refine RD.tS 1 rfl (fun w' s' => .move rfl) ?_;refine RD.tS 2 rfl (fun w' s' => .as (v' := .bool true) (.bin rfl rfl rfl) (congrArg Value.bool (decide_eq_true (rfl)))) ?_;refine RD.tS 3 rfl (fun w' s' => .move rfl) ?_;refine RD.tS 4 rfl (fun w' s' => .field0 fo67_0 rfl) ?_;refine RD.tS 5 rfl (fun w' s' => .field0 fo63_3 rfl) ?_;refine RD.tS 6 rfl (fun w' s' => .load1 sh61 rfl ((hb_6.step s' (fun e => e.elim (fun e => n_4__6.symm e) (fun e => Nat.not_le.2 ltD_b_6 e))).cell rfl)) ?_;refine RD.tS 7 rfl (fun w' s' => .len sl61 rfl) ?_;refine RD.tS 8 rfl (fun w' s' => .move rfl) ?_;refine RD.tS 9 rfl (fun w' s' => .as (v' := .bool true) (.bin rfl rfl rfl) (congrArg Value.bool (decide_eq_true (by rw [hl.1])))) ?_;refine RD.tS 10 rfl (fun w' s' => .pick_t rfl rfl) ?_;refine RD.tS 11 rfl (fun w' s' => .move rfl) ?_;refine RD.tS 12 rfl (fun w' s' => .field0 fo67_4 rfl) ?_;refine RD.tS 13 rfl (fun w' s' => .load1 sh65 rfl ((hb_6.step s' (fun e => e.elim (fun e => n_4__6.symm e) (fun e => Nat.not_le.2 ltD_b_6 e))).cell rfl)) ?_;refine RD.tS 14 rfl (fun w' s' => .len sl65 rfl) ?_;refine RD.tS 15 rfl (fun w' s' => .as (v' := .bool true) (.bin rfl rfl rfl) (congrArg Value.bool (decide_eq_true (by rw [hl.2.1]; rfl)))) ?_;refine RD.tS 16 rfl (fun w' s' => .pick_t rfl rfl) ?_;refine RD.tS 17 rfl (fun w' s' => .move rfl) ?_;refine RD.tS 18 rfl (fun w' s' => .field0 fo67_0 rfl) ?_;refine RD.tS 19 rfl (fun w' s' => .field0 fo63_1 rfl) ?_;refine RD.tS 20 rfl (fun w' s' => .field0 fo59_0 rfl) ?_;refine RD.tS 21 rfl (fun w' s' => .load1 sh57 rfl ((hb_6.step s' (fun e => e.elim (fun e => n_4__6.symm e) (fun e => Nat.not_le.2 ltD_b_6 e))).cell rfl)) ?_;refine RD.tS 22 rfl (fun w' s' => .len sl57 rfl) ?_;refine RD.tS 23 rfl (fun w' s' => .as (v' := .bool true) (.bin rfl rfl rfl) (congrArg Value.bool (decide_eq_true (by rw [hl.2.2.1]; rfl)))) ?_;refine RD.tS 24 rfl (fun w' s' => .pick_t rfl rfl) ?_;refine RD.oneS 25 rfl ?_;refine RL.stS sh67 rfl rfl rfl hb_4 (fun w6 z6 hb_4 a6 => ?_);have S := S.upd a6 ge_4;have h1 := h1.updD a6 d_h1_b_4
 have hb_4 : Has w6 b_4 (z.cells) _ := hb_4.now (by kernel_rfl)
 refine RD.backW rfl (a6.mono fun k _ e => e ▸ (.inl (rfl))) ?_;refine RD.tS 26 rfl (fun w' s' => .assign rfl) ?_;refine RD.done (by kernel_rfl) (RC.back ?_);refine RC.done (rs := [.cell 4 67, .tmp 5]) (vs := [_, _]) rfl rfl ⟨⟨_, rfl, .inr ⟨z.cells, sh67, hb_4.row, rfl⟩⟩, rfl, trivial⟩ ?_
 exact ⟨S, z, x, M, rfl, up, h1⟩
open Go Go.XL
theorem _root_.Go.XL.FC.yes {P : Program} {f : FuncId} {args : List Value} {w : World} {q : Prop} [Decidable q] (h : FC P f args w (Val (.bool (decide q)) w)) (hq : q) : FC P f args w (Val (.bool true) w) := by rwa [decide_eq_true hq] at h
theorem c_stepNo (y : WdP) (k : Int) (hk : (y.wn : Int) ≤ k) (h0 : 0 ≤ k) (w : World) :
  FC Tryz.prog 91 [.agg y.cells.toArray, .int .i64 k] w (Val (.tuple #[.agg wdp0.cells.toArray, .bool false, .agg #[.int .i64 0, .int .i64 0, .int .i64 0], .int .i64 1]) w) := by
 refine FC.intro Tryz.func91 rfl Tryz.ntmps91 rfl ?_
 have S := Sub.refl w
 refine RC.seq (RC.region rfl ?_);refine RL.box rfl rfl rfl (fun b_2 w_2 e_2 z_2 hb_2 s_2 => ?_);have S := S.trans s_2
 have hb_2 : Has w_2 b_2 (y.cells) _ := hb_2
 refine RL.alloc ze63 rfl rfl (fun b_4 w_4 e_4 z_4 hb_4 s_4 => ?_);have ge_4 := S.le e_4;have S := S.trans s_4;have hb_2 := hb_2.sub s_4;refine RL.asS rfl ?_;refine RL.alloc ze38 rfl rfl (fun b_6 w_6 e_6 z_6 hb_6 s_6 => ?_);have ge_6 := S.le e_6;have n_4__6 := hb_4.ne e_6;have S := S.trans s_6;have hb_2 := hb_2.sub s_6;have hb_4 := hb_4.sub s_6;refine RL.asS rfl ?_;refine RL.nil (RC.back (RC.seq (RC.seq (RC.region rfl ?_))));refine RL.mvS rfl ?_;refine RL.eS (.bin rfl rfl rfl) ?_;refine RL.mvS rfl ?_;refine RL.split 16 rfl (fun h1 => ?_) (fun h1 => ?_)
 ·
  exact absurd h1 (by omega)
 ·
  refine RL.mvS rfl ?_;refine RL.eS (.field0 fo63_3 rfl) ?_;refine RL.eS (.load1 sh61 rfl (hb_2.cell rfl)) ?_;refine RL.eS (.len sl61 rfl) ?_;refine RL.eS (.bin rfl rfl rfl) ?_;refine RL.eS (.pick_f rfl rfl) ?_;refine RL.mvS rfl ?_;refine RL.split 23 rfl (fun h2 => ?_) (fun h2 => ?_)
  ·
   refine RL.offs 5 rfl ?_;refine RL.eS (.pick_t rfl rfl) ?_;refine RL.nil (RC.back ?_);refine RC.cond_t rfl ?_;refine RC.seq (RC.region rfl ?_);refine RL.eS (.buildS ze63 pl63 rfl rfl) ?_;refine RL.eS (.buildS ze38 pl38 rfl rfl) ?_;refine RL.stS sh63 rfl rfl rfl hb_4 (fun w3 z3 hb_4 a3 => ?_);have S := S.upd a3 ge_4;have hb_6 := hb_6.upd a3 n_4__6.symm
   have hb_4 : Has w3 b_4 (wdp0.cells) _ := hb_4.now (by kernel_rfl)
   refine RL.asS rfl ?_;refine RL.stS sh38 rfl rfl rfl hb_6 (fun w4 z4 hb_6 a4 => ?_);have S := S.upd a4 ge_6;have hb_4 := hb_4.upd a4 n_4__6
   have hb_6 : Has w4 b_6 ([.int .i64 0, .int .i64 0, .int .i64 0]) _ := hb_6.now (by kernel_rfl)
   refine RL.asS rfl ?_;refine RL.nil (RC.back ?_);refine RC.done (rs := [.cell 4 63, .tmp 5, .cell 6 38, .tmp 7]) (vs := [_, _, _, _]) rfl rfl ⟨⟨_, rfl, .inr ⟨wdp0.cells, sh63, hb_4.row, rfl⟩⟩, rfl, ⟨_, rfl, .inr ⟨[.int .i64 0, .int .i64 0, .int .i64 0], sh38, hb_6.row, rfl⟩⟩, rfl, trivial⟩ ?_
   exact ⟨rfl, S⟩
  ·
   exact absurd hk h2
theorem c_doneNo (b : Nat) (x z e : Int) (he : ¬ e = 0) (w : World) :
  FC Tryz.prog 93 [.pointer (some ⟨b, 0, none⟩), .int .i64 x, .int .i64 z, .int .i64 e] w (Val (.tuple #[.agg stp0.cells.toArray, .int .i64 z, .int .i64 e]) w) := by
 refine FC.intro Tryz.func93 rfl Tryz.ntmps93 rfl ?_
 have S := Sub.refl w
 refine RC.seq (RC.region rfl ?_);refine RL.alloc ze67 rfl rfl (fun b_8 w_8 e_8 z_8 hb_8 s_8 => ?_);have ge_8 := S.le e_8;have S := S.trans s_8;refine RL.asS rfl ?_;refine RL.asS rfl ?_;refine RL.nil (RC.back (RC.seq (RC.seq (RC.region rfl ?_))));refine RL.mvS rfl ?_;refine RL.eS (.bin rfl rfl rfl) ?_;refine RL.nil (RC.back ?_);refine RC.cond_dec rfl (fun h1 => ?_) (fun h1 => ?_)
 ·
  refine RC.seq (RC.region rfl ?_);refine RL.eS (.buildS ze67 pl67 rfl rfl) ?_;refine RL.mvS rfl ?_;refine RL.mvS rfl ?_;refine RL.stS sh67 rfl rfl rfl hb_8 (fun w2 z2 hb_8 a2 => ?_);have S := S.upd a2 ge_8
  have hb_8 : Has w2 b_8 (stp0.cells) _ := hb_8.now (by kernel_rfl)
  refine RL.asS rfl ?_;refine RL.asS rfl ?_;refine RL.nil (RC.back ?_);refine RC.done (rs := [.cell 8 67, .tmp 9, .tmp 10]) (vs := [_, _, _]) rfl rfl ⟨⟨_, rfl, .inr ⟨stp0.cells, sh67, hb_8.row, rfl⟩⟩, rfl, rfl, trivial⟩ ?_
  exact ⟨rfl, S⟩
 ·
  exact absurd (Decidable.not_not.1 h1) he
theorem c_pickNo (z : StP) (k : Int) (hk : (z.wd.wn : Int) ≤ k) (h0 : 0 ≤ k) (w : World) :
  FC Tryz.prog 41 [.agg z.cells.toArray, .int .i64 k] w (Val (.tuple #[.agg stp0.cells.toArray, .int .i64 1]) w) := by
 refine FC.intro Tryz.func41 rfl Tryz.ntmps41 rfl ?_
 have S := Sub.refl w
 refine RC.seq (RC.region rfl ?_);refine RL.box rfl rfl rfl (fun b_2 w_2 e_2 z_2 hb_2 s_2 => ?_);have ge_2 := S.le e_2;have S := S.trans s_2
 have hb_2 : Has w_2 b_2 (z.cells) _ := hb_2
 refine RL.alloc ze67 rfl rfl (fun b_4 w_4 e_4 z_4 hb_4 s_4 => ?_);have ge_4 := S.le e_4;have n_2__4 := hb_2.ne e_4;have S := S.trans s_4;have hb_2 := hb_2.sub s_4;refine RL.asS rfl ?_;refine RL.nil (RC.back (RC.seq (RC.region rfl ?_)));refine RL.eS (.loadR (z.cells) sh67 rfl hb_2.row rfl) ?_;refine RL.eS (.buildS (vs := [(0, .agg z.cells.toArray)]) (cs := (z.cells).toArray) ze173 pl173 rfl (by kernel_rfl)) ?_;refine RL.box rfl rfl rfl (fun b_13 w_13 e_13 z_13 hb_13 s_13 => ?_);have ge_13 := S.le e_13;have n_2__13 := hb_2.ne e_13;have n_4__13 := hb_4.ne e_13;have S := S.trans s_13;have hb_2 := hb_2.sub s_13;have hb_4 := hb_4.sub s_13
 have hb_13 : Has w_13 b_13 (z.cells) _ := hb_13
 refine RL.asS rfl ?_;refine RL.nil (RC.back (RC.seq (RC.region rfl ?_)));refine RL.eS (.field0 fo67_0 rfl) ?_;refine RL.eS (.loadR (z.wd.cells) sh63 rfl ((Has.row_at (pre := []) (mid := z.wd.cells) (post := [.int .i64 z.time, .slice z.ia z.inn z.ic, .slice z.la z.ln z.lc, .slice z.ca z.cn z.cc]) hb_2 rfl)) rfl) ?_;refine RL.mvS rfl ?_;refine RL.call rfl ok91 (c_stepNo z.wd k hk h0 w_13) rfl rfl ?_;rintro _ w1 ⟨rfl, s2⟩;have S := S.trans s2;have hb_2 := hb_2.sub s2;have hb_4 := hb_4.sub s2;have hb_13 := hb_13.sub s2;refine RL.mvS rfl ?_;refine RL.eS (.extract rfl rfl) ?_;refine RL.eS (.as (v' := .bool false) (.extract rfl rfl) (by rfl)) ?_;refine RL.eS (.extract rfl rfl) ?_;refine RL.eS (.as (v' := .int .i64 1) (.extract rfl rfl) (by rfl)) ?_;refine RL.alloc ze63 rfl rfl (fun b_7 w_7 e_7 z_7 hb_7 s_7 => ?_);have ge_7 := S.le e_7;have n_2__7 := hb_2.ne e_7;have n_4__7 := hb_4.ne e_7;have n_13__7 := hb_13.ne e_7;have S := S.trans s_7;have hb_2 := hb_2.sub s_7;have hb_4 := hb_4.sub s_7;have hb_13 := hb_13.sub s_7;refine RL.alloc ze38 rfl rfl (fun b_9 w_9 e_9 z_9 hb_9 s_9 => ?_);have ge_9 := S.le e_9;have n_2__9 := hb_2.ne e_9;have n_4__9 := hb_4.ne e_9;have n_13__9 := hb_13.ne e_9;have n_7__9 := hb_7.ne e_9;have S := S.trans s_9;have hb_2 := hb_2.sub s_9;have hb_4 := hb_4.sub s_9;have hb_13 := hb_13.sub s_9;have hb_7 := hb_7.sub s_9;refine RL.stS sh63 rfl rfl rfl hb_7 (fun w3 z3 hb_7 a3 => ?_);have S := S.upd a3 ge_7;have hb_2 := hb_2.upd a3 n_2__7;have hb_4 := hb_4.upd a3 n_4__7;have hb_13 := hb_13.upd a3 n_13__7;have hb_9 := hb_9.upd a3 n_7__9.symm
 have hb_7 : Has w3 b_7 (wdp0.cells) _ := hb_7.now (by kernel_rfl)
 refine RL.asS rfl ?_;refine RL.stS sh38 rfl rfl rfl hb_9 (fun w4 z4 hb_9 a4 => ?_);have S := S.upd a4 ge_9;have hb_2 := hb_2.upd a4 n_2__9;have hb_4 := hb_4.upd a4 n_4__9;have hb_13 := hb_13.upd a4 n_13__9;have hb_7 := hb_7.upd a4 n_7__9;refine RL.asS rfl ?_;refine RL.nil (RC.back (RC.seq (RC.region rfl ?_)));refine RL.mvS rfl ?_;refine RL.eS (.loadR (wdp0.cells) sh63 rfl hb_7.row rfl) ?_;refine RL.eS (.nilCheck rfl) ?_;refine RL.eS (.field0 fo173_0 rfl) ?_;refine RL.eS (.field0 fo67_0 rfl) ?_;refine RL.stS sh63 rfl rfl rfl hb_13 (fun w5 z5 hb_13 a5 => ?_);have S := S.upd a5 ge_13;have hb_2 := hb_2.upd a5 n_2__13;have hb_4 := hb_4.upd a5 n_4__13
 have hb_13 : Has w5 b_13 (({ z with wd := wdp0 } : StP).cells) _ := hb_13.eqc (by kernel_rfl)
 refine RL.nil (RC.back (RC.seq (RC.seq (RC.region rfl ?_))));refine RL.mvS rfl ?_;refine RL.mvS rfl ?_;refine RL.offs 5 rfl ?_;refine RL.eS (.pick_f rfl rfl) ?_;refine RL.nil (RC.back ?_);refine RC.cond_f rfl ?_;refine RC.skip (RC.back (RC.seq (RC.region rfl ?_)));refine RL.mvS rfl ?_;refine RL.mvS rfl ?_;refine RL.call rfl ok93 (c_doneNo b_13 0 0 1 (by decide) w5) rfl rfl ?_;rintro _ w6 ⟨rfl, s7⟩;have S := S.trans s7;have hb_2 := hb_2.sub s7;have hb_4 := hb_4.sub s7;refine RL.mvS rfl ?_;refine RL.eS (.extract rfl rfl) ?_;refine RL.eS (.extract rfl rfl) ?_;refine RL.eS (.extract rfl rfl) ?_;refine RL.stS sh67 rfl rfl rfl hb_2 (fun w8 z8 hb_2 a8 => ?_);have S := S.upd a8 ge_2;have hb_4 := hb_4.upd a8 n_2__4.symm
 have hb_2 : Has w8 b_2 (stp0.cells) _ := hb_2.now (by kernel_rfl)
 refine RL.asS rfl ?_;refine RL.nil (RC.back (RC.seq (RC.region rfl ?_)));refine RL.eS (.loadR (stp0.cells) sh67 rfl hb_2.row rfl) ?_;refine RL.mvS rfl ?_;refine RL.stS sh67 rfl rfl rfl hb_4 (fun w9 z9 hb_4 a9 => ?_);have S := S.upd a9 ge_4
 have hb_4 : Has w9 b_4 (stp0.cells) _ := hb_4.now (by kernel_rfl)
 refine RL.asS rfl ?_;refine RL.nil (RC.back ?_);refine RC.done (rs := [.cell 4 67, .tmp 5]) (vs := [_, _]) rfl rfl ⟨⟨_, rfl, .inr ⟨stp0.cells, sh67, hb_4.row, rfl⟩⟩, rfl, trivial⟩ ?_
 exact ⟨rfl, S⟩
set_option maxHeartbeats 1000000 in
theorem c_alive (w : World) : FC Tryz.prog 13 [] w (Val (.bool true) w) := by
 have hok : AOk (newA 50) := newA_ok (by decide)
 refine FC.intro Tryz.func13 rfl Tryz.ntmps13 rfl ?_
 have S := Sub.refl w
 refine RC.seq (RC.region rfl ?_);refine RL.asS rfl ?_;refine RL.nil (RC.back (RC.seq (RC.region rfl ?_)));refine RL.call rfl ok18 (c_begin 2 50 (by decide) (by decide) w) rfl rfl ?_;rintro _ w1 ⟨s2, z, x, M, rfl, up, h1⟩
 have hl := h1.now.lens
 have h2 := h1.now
 obtain ⟨⟨hAr, e1, e2, e3, e4, ⟨b1, b2, b3, ht, hbx, _⟩, _⟩, _⟩ := h2
 have S := S.trans s2
 obtain ⟨W1, S1, hAr⟩ : ∃ W, Sub W w1 ∧ ArR W z.wd.na z.wd.fa (newA 50) := ⟨_, Sub.refl _, hAr⟩
 refine RL.mvS rfl ?_;refine RL.eS (.extract rfl rfl) ?_;refine RL.eS (.as (v' := .bool true) (.extract rfl rfl) (by rfl)) ?_;refine RL.alloc ze67 rfl rfl (fun b_1 w_1 e_1 z_1 hb_1 s_1 => ?_);have ge_1 := S.le e_1
 have n1__1 := hbx.ne e_1
 have S := S.trans s_1
 have geS1_1 := S1.le e_1
 have S1 := S1.trans s_1;have hbx := hbx.sub s_1;refine RL.stS sh67 rfl rfl rfl hb_1 (fun w3 z3 hb_1 a3 => ?_);have S := S.upd a3 ge_1;have S1 := S1.upd a3 geS1_1;have hbx := hbx.upd a3 n1__1
 have hb_1 : Has w3 b_1 (z.cells) _ := hb_1.now (by kernel_rfl)
 refine RL.asS rfl ?_;refine RL.nil (RC.back (RC.seq (RC.seq (RC.region rfl ?_))));refine RL.mvS rfl ?_;refine RL.eS (.not rfl) ?_;refine RL.nil (RC.back ?_);refine RC.cond rfl (fun h4 => ?_) (fun h4 => ?_)
 ·
  exact absurd h4 (by decide)
 ·
  refine RC.skip (RC.back (RC.seq ?_));refine RC.drawD (fun k => False) [15] w3.heap.size 17 rfl rfl mxo (fun w5 s6 => ?_)
  have hNN : ∀ k, ((False) ∨ w3.heap.size ≤ k) → w.heap.size ≤ k := fun k e => e.elim (fun e => e.elim) (fun e => Nat.le_trans S.size e)
  have hN0 : ∀ k, w3.heap.size ≤ k → w.heap.size ≤ k := fun k e => Nat.le_trans S.size e
  have ltD_b1 := hbx.lt;have ltD_b_1 := hb_1.lt;have szD := Nat.le_refl w3.heap.size;have S := S.trans s6;have S1 := S1.trans s6;have hbx := hbx.sub s6;have hb_1 := hb_1.sub s6;have szD := Nat.le_trans szD s6.size;refine RD.tS 0 rfl (fun w' s' => .field0 fo67_0 rfl) ?_;refine RD.tS 1 rfl (fun w' s' => .field0 fo63_0 rfl) ?_;refine RD.tS 2 rfl (fun w' s' => .as (v' := arV z.wd.na z.wd.fa z.wd.nc z.wd.fc (newA 50)) (.loadR ([.slice z.wd.na z.wd.nn z.wd.nc, .slice z.wd.fa z.wd.fn z.wd.fc]) sh26 rfl (row_pref (xs := [.slice z.wd.na z.wd.nn z.wd.nc, .slice z.wd.fa z.wd.fn z.wd.fc]) (ys := [.slice z.wd.tb.ra z.wd.tb.rn z.wd.tb.rc, .slice z.wd.tb.pa z.wd.tb.pn z.wd.tb.pc, .slice z.wd.tb.sa z.wd.tb.sn z.wd.tb.sc, .slice z.wd.aa z.wd.an z.wd.ac, .slice z.wd.wa z.wd.wn z.wd.wc, .int .i64 z.time, .slice z.ia z.inn z.ic, .slice z.la z.ln z.lc, .slice z.ca z.cn z.cc]) (hb_1.step s' (fun e => e.elim (fun e => e.elim) (fun e => Nat.not_le.2 ltD_b_1 e)))) rfl) (by rw [e1, e3]; rfl)) ?_;refine RD.tS 3 rfl (fun w' s' => .field0 fo67_0 rfl) ?_;refine RD.tS 4 rfl (fun w' s' => .field0 fo63_1 rfl) ?_;refine RD.tS 5 rfl (fun w' s' => .field0 fo59_0 rfl) ?_;refine RD.tS 6 rfl (fun w' s' => .as (v' := .slice (some ⟨b1, 0, none⟩) 1 1) (.load1 sh57 rfl ((hb_1.step s' (fun e => e.elim (fun e => e.elim) (fun e => Nat.not_le.2 ltD_b_1 e))).cell rfl)) (by rw [ht])) ?_;refine RD.tS 7 rfl (fun w' s' => .indexO sl57 rfl rfl (by omega)) ?_;refine RD.tS 8 rfl (fun w' s' => .field0 fo77_1 rfl) ?_;refine RD.tS 9 rfl (fun w' s' => .as (v' := rt0.val) (.loadR (x.rt.cells) sh33 rfl ((Has.row_at (pre := [.int .i64 x.no]) (mid := x.rt.cells) (post := [.slice x.aa x.an x.ac, .slice x.ra x.rn x.rc]) (hbx.step s' (fun e => e.elim (fun e => e.elim) (fun e => Nat.not_le.2 ltD_b1 e))) rfl)) rfl) (by rw [hl.2.2.2]; rfl)) ?_;refine RD.all [10, 14] (by kernel_rfl) rfl (RDs.cons rfl ?_ (RDs.cons rfl ?_ (RDs.nil)))
  ·
   refine RL.call rfl ok14 (c_hold0 (newA 50) _ _ _ _ (e1 ▸ e2) (e3 ▸ e4) rt0 rt0_ok rfl m0 (IsC.zero hok) w5 (hAr.sub S1)) rfl rfl ?_;rintro _ w7 ⟨s8, p, M2, rfl, hms, upm, hF⟩;have S := S.trans s8;have S1 := S1.trans s8;have hbx := hbx.sub s8;have hb_1 := hb_1.sub s8;have szD := Nat.le_trans szD s8.size;refine RD.back s8.agr ?_;refine RD.tS 11 rfl (fun w' s' => .move rfl) ?_;refine RD.tS 12 rfl (fun w' s' => .extract rfl rfl) ?_;refine RD.tS 13 rfl (fun w' s' => .as (v' := .int .i64 0) (.extract rfl rfl) (by rfl)) ?_;refine RD.oneS 14 rfl ?_;refine RL.alloc ze45 rfl rfl (fun b_3 w_3 e_3 z_3 hb_3 s_3 => ?_)
   have fr_b_3 : w3.heap.size ≤ b_3 := by rw [e_3]; exact szD
   have ge_3 := S.le e_3
   have n1__3 := hbx.ne e_3
   have n_1__3 := hb_1.ne e_3;have d_hF_b_3 := hF.neNew e_3;have S := S.trans s_3
   have geS1_3 := S1.le e_3
   have S1 := S1.trans s_3;have hbx := hbx.sub s_3;have hb_1 := hb_1.sub s_3;have szD := Nat.le_trans szD s_3.size;have hF := hF.sub s_3;refine RD.back s_3.agr ?_;refine RD.oneS 15 rfl ?_;refine RL.stS sh45 rfl rfl rfl hb_3 (fun w9 z9 hb_3 a9 => ?_);have S := S.upd a9 ge_3;have S1 := S1.upd a9 geS1_3;have hbx := hbx.upd a9 n1__3;have hb_1 := hb_1.upd a9 n_1__3;have szD := Nat.le_trans szD a9.size;have hF := hF.updD a9 d_hF_b_3
   have hb_3 : Has w9 b_3 (moC p m0) _ := hb_3.now (by kernel_rfl)
   refine RD.backW rfl (a9.mono fun k _ e => e ▸ (.inr fr_b_3)) ?_;refine RD.tS 16 rfl (fun w' s' => .assign rfl) ?_;refine RD.done (by kernel_rfl) (RC.back ?_);refine RC.seq (RC.region rfl ?_);refine RL.eS (.loadR (z.cells) sh67 rfl hb_1.row rfl) ?_;refine RL.call rfl ok41 (c_pickNo z 9 (by rw [hl.1]; decide) (by decide) w9) rfl rfl ?_;rintro _ w10 ⟨rfl, s11⟩;have S := S.trans s11;have S1 := S1.trans s11;have hbx := hbx.sub s11;have hb_1 := hb_1.sub s11;have hF := hF.sub s11;have hb_3 := hb_3.sub s11;refine RL.mvS rfl ?_;refine RL.eS (.extract rfl rfl) ?_;refine RL.eS (.as (v' := .int .i64 1) (.extract rfl rfl) (by rfl)) ?_;refine RL.alloc ze67 rfl rfl (fun b_5 w_5 e_5 z_5 hb_5 s_5 => ?_);have ge_5 := S.le e_5
   have n1__5 := hbx.ne e_5
   have n_1__5 := hb_1.ne e_5;have n_3__5 := hb_3.ne e_5;have d_hF_b_5 := hF.neNew e_5;have S := S.trans s_5
   have geS1_5 := S1.le e_5
   have S1 := S1.trans s_5;have hbx := hbx.sub s_5;have hb_1 := hb_1.sub s_5;have hF := hF.sub s_5;have hb_3 := hb_3.sub s_5;refine RL.stS sh67 rfl rfl rfl hb_5 (fun w12 z12 hb_5 a12 => ?_);have S := S.upd a12 ge_5;have S1 := S1.upd a12 geS1_5;have hbx := hbx.upd a12 n1__5;have hb_1 := hb_1.upd a12 n_1__5;have hF := hF.updD a12 d_hF_b_5;have hb_3 := hb_3.upd a12 n_3__5
   have hb_5 : Has w12 b_5 (stp0.cells) _ := hb_5.now (by kernel_rfl)
   refine RL.asS rfl ?_;refine RL.nil (RC.back (RC.seq (RC.region rfl ?_)));refine RL.mvS rfl ?_;refine RL.eS (.as (v' := .bool true) (.bin rfl rfl rfl) (congrArg Value.bool (decide_eq_true (rfl)))) ?_;refine RL.mvS rfl ?_;refine RL.mvS rfl ?_;refine RL.eS (.as (v' := .bool true) (.bin rfl rfl rfl) (congrArg Value.bool (decide_eq_true (rfl)))) ?_;refine RL.eS (.pick_t rfl rfl) ?_;refine RL.mvS rfl ?_;refine RL.eS (.loadR (moC p m0) sh45 rfl hb_3.row rfl) ?_;refine RL.eS (.as (v' := moV p0 m0) (.buildS ze45 pl45 rfl rfl) (by rfl)) ?_;refine RL.call rfl ok42 (FC.yes (c_MSame p m0 hms p0 m0 m0_S w12 hF.now ⟨Sl.nil _ _ _, Sl.nil _ _ _, Sl.nil _ _ _, Sl.nil _ _ _⟩) ⟨rfl, rfl, rfl, rfl⟩) rfl rfl ?_;rintro _ w13 ⟨rfl, s14⟩;have S := S.trans s14;have S1 := S1.trans s14;have hbx := hbx.sub s14;have hb_1 := hb_1.sub s14;have hF := hF.sub s14;have hb_3 := hb_3.sub s14;have hb_5 := hb_5.sub s14;refine RL.eS (.pick_t rfl rfl) ?_;refine RL.asS rfl ?_;refine RL.nil (RC.back ?_);refine RC.d1 0 rfl rfl rfl ?_
   exact ⟨rfl, S⟩
  ·
   refine RL.alloc ze45 rfl rfl (fun b_3 w_3 e_3 z_3 hb_3 s_3 => ?_)
   have fr_b_3 : w3.heap.size ≤ b_3 := by rw [e_3]; exact szD
   have ge_3 := S.le e_3
   have n1__3 := hbx.ne e_3
   have n_1__3 := hb_1.ne e_3;have S := S.trans s_3;have S1 := S1.trans s_3;have hbx := hbx.sub s_3;have hb_1 := hb_1.sub s_3;refine RD.back s_3.agr ?_;refine RD.oneS 10 rfl ?_;refine RL.call rfl ok14 (c_hold0 (newA 50) _ _ _ _ (e1 ▸ e2) (e3 ▸ e4) rt0 rt0_ok rfl m0 (IsC.zero hok) w_3 (hAr.sub S1)) rfl rfl ?_;rintro _ w15 ⟨s16, p, M2, rfl, hms, upm, hF⟩;have d_hF_b_3 := upNe upm (fun _ (h : False) => h.elim) hb_3.lt;have S := S.trans s16;have hbx := hbx.sub s16;have hb_1 := hb_1.sub s16;have hb_3 := hb_3.sub s16;refine RD.back s16.agr ?_;refine RD.tS 11 rfl (fun w' s' => .move rfl) ?_;refine RD.tS 12 rfl (fun w' s' => .extract rfl rfl) ?_;refine RD.tS 13 rfl (fun w' s' => .as (v' := .int .i64 0) (.extract rfl rfl) (by rfl)) ?_;refine RD.oneS 15 rfl ?_;refine RL.stS sh45 rfl rfl rfl hb_3 (fun w17 z17 hb_3 a17 => ?_);have S := S.upd a17 ge_3;have hbx := hbx.upd a17 n1__3;have hb_1 := hb_1.upd a17 n_1__3;have hF := hF.updD a17 d_hF_b_3
   have hb_3 : Has w17 b_3 (moC p m0) _ := hb_3.now (by kernel_rfl)
   refine RD.backW rfl (a17.mono fun k _ e => e ▸ (.inr fr_b_3)) ?_;refine RD.tS 16 rfl (fun w' s' => .assign rfl) ?_;refine RD.done (by kernel_rfl) (RC.back ?_);refine RC.seq (RC.region rfl ?_);refine RL.eS (.loadR (z.cells) sh67 rfl hb_1.row rfl) ?_;refine RL.call rfl ok41 (c_pickNo z 9 (by rw [hl.1]; decide) (by decide) w17) rfl rfl ?_;rintro _ w18 ⟨rfl, s19⟩;have S := S.trans s19;have hbx := hbx.sub s19;have hb_3 := hb_3.sub s19;have hF := hF.sub s19;refine RL.mvS rfl ?_;refine RL.eS (.extract rfl rfl) ?_;refine RL.eS (.as (v' := .int .i64 1) (.extract rfl rfl) (by rfl)) ?_;refine RL.alloc ze67 rfl rfl (fun b_5 w_5 e_5 z_5 hb_5 s_5 => ?_);have ge_5 := S.le e_5
   have n1__5 := hbx.ne e_5
   have n_3__5 := hb_3.ne e_5;have d_hF_b_5 := hF.neNew e_5;have S := S.trans s_5;have hb_3 := hb_3.sub s_5;have hF := hF.sub s_5;refine RL.stS sh67 rfl rfl rfl hb_5 (fun w20 z20 hb_5 a20 => ?_);have S := S.upd a20 ge_5;have hb_3 := hb_3.upd a20 n_3__5;have hF := hF.updD a20 d_hF_b_5
   have hb_5 : Has w20 b_5 (stp0.cells) _ := hb_5.now (by kernel_rfl)
   refine RL.asS rfl ?_;refine RL.nil (RC.back (RC.seq (RC.region rfl ?_)));refine RL.mvS rfl ?_;refine RL.eS (.as (v' := .bool true) (.bin rfl rfl rfl) (congrArg Value.bool (decide_eq_true (rfl)))) ?_;refine RL.mvS rfl ?_;refine RL.mvS rfl ?_;refine RL.eS (.as (v' := .bool true) (.bin rfl rfl rfl) (congrArg Value.bool (decide_eq_true (rfl)))) ?_;refine RL.eS (.pick_t rfl rfl) ?_;refine RL.mvS rfl ?_;refine RL.eS (.loadR (moC p m0) sh45 rfl hb_3.row rfl) ?_;refine RL.eS (.as (v' := moV p0 m0) (.buildS ze45 pl45 rfl rfl) (by rfl)) ?_;refine RL.call rfl ok42 (FC.yes (c_MSame p m0 hms p0 m0 m0_S w20 hF.now ⟨Sl.nil _ _ _, Sl.nil _ _ _, Sl.nil _ _ _, Sl.nil _ _ _⟩) ⟨rfl, rfl, rfl, rfl⟩) rfl rfl ?_;rintro _ w21 ⟨rfl, s22⟩;have S := S.trans s22;refine RL.eS (.pick_t rfl rfl) ?_;refine RL.asS rfl ?_;refine RL.nil (RC.back ?_);refine RC.d1 0 rfl rfl rfl ?_
   exact ⟨rfl, S⟩
theorem c_apRight (A : Ar) (na fa : Option Addr) (nc fc : Nat) (hnc : A.nodes.length ≤ nc) (hfc : A.free.length ≤ fc) (R : Rt) (hR : R.ok) (h0 : R.h = 0) (m : Mo) (hC : IsC A R m) (w : World) (hA : ArR w na fa A) :
  FC Tryz.prog 35 [arV na fa nc fc A, R.val] w (Val (.bool true) w) := by
 refine FC.intro Tryz.func35 rfl Tryz.ntmps35 rfl ?_
 have S := Sub.refl w
 refine RC.seq (RC.region rfl ?_);refine RL.box rfl rfl rfl (fun b_2 w_2 e_2 z_2 hb_2 s_2 => ?_);have S := S.trans s_2
 have hb_2 : Has w_2 b_2 ([.slice na A.nodes.length nc, .slice fa A.free.length fc]) _ := hb_2
 refine RL.box rfl rfl rfl (fun b_3 w_3 e_3 z_3 hb_3 s_3 => ?_);have S := S.trans s_3;have hb_2 := hb_2.sub s_3
 have hb_3 : Has w_3 b_3 (R.cells) _ := hb_3
 refine RL.asS rfl ?_;refine RL.nil (RC.back (RC.seq (RC.region rfl ?_)));refine RL.eS (.loadR ([.slice na A.nodes.length nc, .slice fa A.free.length fc]) sh26 rfl hb_2.row rfl) ?_;refine RL.eS (.loadR (R.cells) sh33 rfl hb_3.row rfl) ?_;refine RL.call rfl ok14 (c_hold0 A na fa nc fc hnc hfc R hR h0 m hC w_3 (hA.sub S)) rfl rfl ?_;rintro _ w1 ⟨s2, p, M2, rfl, _, _, _⟩;have S := S.trans s2;refine RL.mvS rfl ?_;refine RL.eS (.extract rfl rfl) ?_;refine RL.eS (.as (v' := .int .i64 0) (.extract rfl rfl) (by rfl)) ?_;refine RL.alloc ze45 rfl rfl (fun b_5 w_5 e_5 z_5 hb_5 s_5 => ?_);have ge_5 := S.le e_5;have S := S.trans s_5;refine RL.stS sh45 rfl rfl rfl hb_5 (fun w3 z3 hb_5 a3 => ?_);have S := S.upd a3 ge_5
 have hb_5 : Has w3 b_5 (moC p m) _ := hb_5.now (by kernel_rfl)
 refine RL.asS rfl ?_;refine RL.nil (RC.back (RC.seq (RC.region rfl ?_)));refine RL.mvS rfl ?_;refine RL.eS (.as (v' := .bool true) (.bin rfl rfl rfl) (congrArg Value.bool (decide_eq_true (rfl)))) ?_;refine RL.asS rfl ?_;refine RL.nil (RC.back ?_);refine RC.d1 4 rfl rfl rfl ?_
 exact ⟨rfl, S⟩
def putRt (o : OpT) (R : Rt) (r : Int) : Rt := if o.box = 1 then { R with m := r } else { R with t := r }
def DoP (A : Ar) (R : Rt) (L T : List It) (o : OpT) (x : RsT) (B : Ar) (r e : Int) : Prop := (o.box = 1 ∧ MapsP A R.m L o x B r e) ∨ (o.box = 2 ∧ TabsP A R.t T o x B r e)
set_option maxHeartbeats 4000000 in
theorem c_do12 (A : Ar) (na fa : Option Addr) (nc fc : Nat) (hnc : A.nodes.length ≤ nc) (hfc : A.free.length ≤ fc) (R : Rt) (hR : R.ok) (h0 : R.h = 0) (m : Mo) (hC : IsC A R m) (T : List It) (hT : IsH A 10 R.t T) (o : OpT) (ho : o.ok) (hok : okP o) (hb : o.box = 1 ∨ o.box = 2) (hk : o.kind = 2 ∨ o.kind = 3) (M : Nat → Prop) (w : World) (hA : Ft M (fun u => ArR u na fa A) w) :
  FC Tryz.prog 12 [arV na fa nc fc A, R.val, .agg o.cells.toArray] w (fun v w' => Sub w w' ∧ ∃ x B r e nb fb ncb fcb M', v = .tuple #[arV nb fb ncb fcb (if e = 0 then B else A), (if e = 0 then putRt o R r else R).val, x.val, .int .i64 0] ∧ (if e = 0 then B else A).nodes.length ≤ ncb ∧ (if e = 0 then B else A).free.length ≤ fcb ∧ Ft M' (fun u => ArR u nb fb (if e = 0 then B else A)) w' ∧ Up M w M' ∧ U64 r ∧ DoP A R m.map T o x B r e) := by
 have hmap := hC.isMap
 have htab := hC.isTab
 have hLm := hC.map
 refine FC.intro Tryz.func12 rfl Tryz.ntmps12 rfl ?_
 have S := Sub.refl w
 refine RC.seq (RC.region rfl ?_);refine RL.box rfl rfl rfl (fun b_3 w_3 e_3 z_3 hb_3 s_3 => ?_);have S := S.trans s_3;have hA := hA.sub s_3
 have hb_3 : Has w_3 b_3 ([.slice na A.nodes.length nc, .slice fa A.free.length fc]) _ := hb_3
 refine RL.box rfl rfl rfl (fun b_4 w_4 e_4 z_4 hb_4 s_4 => ?_);have S := S.trans s_4;have hA := hA.sub s_4;have hb_3 := hb_3.sub s_4
 have hb_4 : Has w_4 b_4 (R.cells) _ := hb_4
 refine RL.box rfl rfl rfl (fun b_5 w_5 e_5 z_5 hb_5 s_5 => ?_);have d_hA_b_5 := hA.neNew e_5;have S := S.trans s_5;have hA := hA.sub s_5;have hb_3 := hb_3.sub s_5;have hb_4 := hb_4.sub s_5
 have hb_5 : Has w_5 b_5 (o.cells) _ := hb_5
 refine RL.alloc ze26 rfl rfl (fun b_6 w_6 e_6 z_6 hb_6 s_6 => ?_);have ge_6 := S.le e_6;have n_5__6 := hb_5.ne e_6;have d_hA_b_6 := hA.neNew e_6;have S := S.trans s_6;have hA := hA.sub s_6;have hb_3 := hb_3.sub s_6;have hb_4 := hb_4.sub s_6;have hb_5 := hb_5.sub s_6;refine RL.alloc ze33 rfl rfl (fun b_7 w_7 e_7 z_7 hb_7 s_7 => ?_);have ge_7 := S.le e_7;have n_5__7 := hb_5.ne e_7;have n_6__7 := hb_6.ne e_7;have d_hA_b_7 := hA.neNew e_7;have S := S.trans s_7;have hA := hA.sub s_7;have hb_3 := hb_3.sub s_7;have hb_4 := hb_4.sub s_7;have hb_5 := hb_5.sub s_7;have hb_6 := hb_6.sub s_7;refine RL.alloc ze38 rfl rfl (fun b_8 w_8 e_8 z_8 hb_8 s_8 => ?_);have ge_8 := S.le e_8;have n_5__8 := hb_5.ne e_8;have n_6__8 := hb_6.ne e_8;have n_7__8 := hb_7.ne e_8;have d_hA_b_8 := hA.neNew e_8;have S := S.trans s_8;have hA := hA.sub s_8;have hb_3 := hb_3.sub s_8;have hb_4 := hb_4.sub s_8;have hb_5 := hb_5.sub s_8;have hb_6 := hb_6.sub s_8;have hb_7 := hb_7.sub s_8;refine RL.asS rfl ?_;refine RL.nil (RC.back (RC.seq (RC.seq (RC.region rfl ?_))));refine RL.eS (.loadR ([.slice na A.nodes.length nc, .slice fa A.free.length fc]) sh26 rfl hb_3.row rfl) ?_;refine RL.eS (.loadR (R.cells) sh33 rfl hb_4.row rfl) ?_;refine RL.call rfl ok35 (c_apRight A na fa nc fc hnc hfc R hR h0 m hC w_8 hA.now) rfl rfl ?_;rintro _ w1 ⟨rfl, s2⟩;have S := S.trans s2;have hA := hA.sub s2;have hb_3 := hb_3.sub s2;have hb_4 := hb_4.sub s2;have hb_5 := hb_5.sub s2;have hb_6 := hb_6.sub s2;have hb_7 := hb_7.sub s2;have hb_8 := hb_8.sub s2;refine RL.eS (.not rfl) ?_;refine RL.mvS rfl ?_;refine RL.eS (.loadR (o.cells) sh35 rfl hb_5.row rfl) ?_;refine RL.call rfl ok36 (FC.yes (c_opRight o w1) hok) rfl rfl ?_;rintro _ w3 ⟨rfl, s4⟩;have S := S.trans s4;have hA := hA.sub s4;have hb_3 := hb_3.sub s4;have hb_4 := hb_4.sub s4;have hb_5 := hb_5.sub s4;have hb_6 := hb_6.sub s4;have hb_7 := hb_7.sub s4;have hb_8 := hb_8.sub s4;refine RL.eS (.not rfl) ?_;refine RL.eS (.pick_f rfl rfl) ?_;refine RL.nil (RC.back ?_);refine RC.cond_f rfl ?_;refine RC.skip (RC.back (RC.seq (RC.region rfl ?_)));refine RL.eS (.loadR ([.slice na A.nodes.length nc, .slice fa A.free.length fc]) sh26 rfl hb_3.row rfl) ?_;refine RL.eS (.loadR (R.cells) sh33 rfl hb_4.row rfl) ?_;refine RL.eS (.buildS (vs := [(0, .agg #[.slice na A.nodes.length nc, .slice fa A.free.length fc]), (1, .agg R.cells.toArray)]) (cs := (wkC na fa nc fc A R).toArray) ze109 pl109 rfl (by kernel_rfl)) ?_;refine RL.box rfl rfl rfl (fun b_27 w_27 e_27 z_27 hb_27 s_27 => ?_);have ge_27 := S.le e_27;have n_5__27 := hb_5.ne e_27;have n_6__27 := hb_6.ne e_27;have n_7__27 := hb_7.ne e_27;have n_8__27 := hb_8.ne e_27;have d_hA_b_27 := hA.neNew e_27;have S := S.trans s_27;have hA := hA.sub s_27;have hb_5 := hb_5.sub s_27;have hb_6 := hb_6.sub s_27;have hb_7 := hb_7.sub s_27;have hb_8 := hb_8.sub s_27
 have hb_27 : Has w_27 b_27 (wkC na fa nc fc A R) _ := hb_27
 have hF := WkO.ft hb_27 hnc hfc hA (fun h => d_hA_b_27 _ h rfl)
 have dF5 : ∀ k, (k = b_27 ∨ M k) → k ≠ b_5 := (fun k hk e => hk.elim (fun h => n_5__27 (e.symm.trans h)) (fun h => d_hA_b_5 k h e))
 have dF6 : ∀ k, (k = b_27 ∨ M k) → k ≠ b_6 := (fun k hk e => hk.elim (fun h => n_6__27 (e.symm.trans h)) (fun h => d_hA_b_6 k h e))
 have dF7 : ∀ k, (k = b_27 ∨ M k) → k ≠ b_7 := (fun k hk e => hk.elim (fun h => n_7__27 (e.symm.trans h)) (fun h => d_hA_b_7 k h e))
 have dF8 : ∀ k, (k = b_27 ∨ M k) → k ≠ b_8 := (fun k hk e => hk.elim (fun h => n_8__27 (e.symm.trans h)) (fun h => d_hA_b_8 k h e))
 refine RL.asS rfl ?_;refine RL.nil (RC.back (RC.seq (RC.region rfl ?_)));refine RL.alloc ze38 rfl rfl (fun b_11 w_11 e_11 z_11 hb_11 s_11 => ?_);have ge_11 := S.le e_11;have n_5__11 := hb_5.ne e_11;have n_6__11 := hb_6.ne e_11;have n_7__11 := hb_7.ne e_11;have n_8__11 := hb_8.ne e_11;have n_27__11 := hb_27.ne e_11;have d_hF_b_11 := hF.neNew e_11;have S := S.trans s_11;have hb_5 := hb_5.sub s_11;have hb_6 := hb_6.sub s_11;have hb_7 := hb_7.sub s_11;have hb_8 := hb_8.sub s_11;have hF := hF.sub s_11;refine RL.nil (RC.back (RC.seq (RC.seq (RC.region rfl ?_))));refine RL.eS (.field0 fo35_0 rfl) ?_;refine RL.eS (.load1 sh3 rfl (hb_5.cell rfl)) ?_;refine RL.nil (RC.back (RC.block (RC.seq (RC.region rfl ?_))));refine RL.eS (.bin rfl rfl rfl) ?_;refine RL.asS rfl ?_;refine RL.nil (RC.back ?_);refine RC.cond_dec rfl (fun h5 => ?_) (fun h5 => ?_)
 ·
  have hb1 : o.box = 1 := h5
  refine RC.region rfl ?_;refine RL.mvS rfl ?_;refine RL.eS (.loadR (o.cells) sh35 rfl hb_5.row rfl) ?_;refine RL.call rfl ok37 (c_maps b_27 A R _ hR m.map hmap hLm o ho hk w_11 hF) rfl rfl ?_;rintro _ w6 ⟨x, B, r1, e1, C1, rfl, hF1, ag, up1, hu1, hpp⟩;have szS1 := S.size;have d_hF1_b_6 := upNe up1 dF6 hb_6.lt;have d_hF1_b_7 := upNe up1 dF7 hb_7.lt;have d_hF1_b_8 := upNe up1 dF8 hb_8.lt;have d_hF1_b_11 := upNe up1 d_hF_b_11 hb_11.lt;have S := S.upd ag ge_27;have hb_5 := hb_5.upd ag n_5__27;have hb_6 := hb_6.upd ag n_6__27;have hb_7 := hb_7.upd ag n_7__27;have hb_8 := hb_8.upd ag n_8__27;have hb_11 := hb_11.upd ag n_27__11.symm;refine RL.stS sh38 rfl rfl rfl hb_11 (fun w8 z8 hb_11 a8 => ?_);have S := S.upd a8 ge_11;have hb_5 := hb_5.upd a8 n_5__11;have hb_6 := hb_6.upd a8 n_6__11;have hb_7 := hb_7.upd a8 n_7__11;have hb_8 := hb_8.upd a8 n_8__11;have hF1 := hF1.updD a8 d_hF1_b_11
  have hb_11 : Has w8 b_11 (x.cells) _ := hb_11.now (by kernel_rfl)
  obtain ⟨A2, hA2⟩ : ∃ A2, A2 = (if e1 = 0 then B else A) := ⟨_, rfl⟩
  obtain ⟨R2, hR2⟩ : ∃ R2, R2 = (if e1 = 0 then { R with m := r1 } else R) := ⟨_, rfl⟩
  rw [← hA2, ← hR2] at hF1
  have hRp : R2 = (if e1 = 0 then putRt o R r1 else R) := (by rw [hR2]; unfold putRt; rw [if_pos hb1])
  obtain ⟨hCb1, na1, fa1, nc1, fc1, M1, hbf, hn1, hf1, hA1, hMb1, hMC1⟩ := hF1.now
  have dA6 : ∀ k, M1 k → k ≠ b_6 := (fun k hk => d_hF1_b_6 k (hMC1 k hk))
  have dA7 : ∀ k, M1 k → k ≠ b_7 := (fun k hk => d_hF1_b_7 k (hMC1 k hk))
  have dA8 : ∀ k, M1 k → k ≠ b_8 := (fun k hk => d_hF1_b_8 k (hMC1 k hk))
  have upM : Up M w M1 := (fun k hk => (up1 k (hMC1 k hk)).elim (fun h => h.elim (fun h => .inr (h ▸ ge_27)) .inl) (fun h => .inr (Nat.le_trans szS1 h)))
  refine RL.nil (RC.back (RC.seq ?_));refine RC.drawD (fun k => k = b_6 ∨ k = b_7 ∨ k = b_8) [9, 10, 11] w8.heap.size 13 rfl rfl mxo (fun w9 s10 => ?_)
  have hNN : ∀ k, ((k = b_6 ∨ k = b_7 ∨ k = b_8) ∨ w8.heap.size ≤ k) → w.heap.size ≤ k := fun k e => e.elim (fun e => e.elim (fun e => e ▸ ge_6) (fun e => e.elim (fun e => e ▸ ge_7) (fun e => e ▸ ge_8))) (fun e => Nat.le_trans S.size e)
  have hN0 : ∀ k, w8.heap.size ≤ k → w.heap.size ≤ k := fun k e => Nat.le_trans S.size e
  have ltD_b_11 := hb_11.lt;have ltD_b_27 := hbf.lt;have S := S.trans s10;have hb_5 := hb_5.sub s10;have hb_6 := hb_6.sub s10;have hb_7 := hb_7.sub s10;have hb_8 := hb_8.sub s10;have hb_11 := hb_11.sub s10;have hbf := hbf.sub s10;have hA1 := hA1.sub s10;refine RD.tS 0 rfl (fun w' s' => .move rfl) ?_;refine RD.tS 1 rfl (fun w' s' => .nilCheck rfl) ?_;refine RD.tS 2 rfl (fun w' s' => .field0 fo109_0 rfl) ?_;refine RD.tS 3 rfl (fun w' s' => .loadR (wvA na1 fa1 nc1 fc1 A2) sh26 rfl (row_pref (xs := wvA na1 fa1 nc1 fc1 A2) (ys := R2.cells) (hbf.step s' (fun e => e.elim (fun e => e.elim (fun e => n_6__27.symm e) (fun e => e.elim (fun e => n_7__27.symm e) (fun e => n_8__27.symm e))) (fun e => Nat.not_le.2 ltD_b_27 e)))) rfl) ?_;refine RD.tS 4 rfl (fun w' s' => .move rfl) ?_;refine RD.tS 5 rfl (fun w' s' => .nilCheck rfl) ?_;refine RD.tS 6 rfl (fun w' s' => .field0 fo109_1 rfl) ?_;refine RD.tS 7 rfl (fun w' s' => .loadR (R2.cells) sh33 rfl (Has.row_at (pre := wvA na1 fa1 nc1 fc1 A2) (mid := R2.cells) (post := []) (hbf.step s' (fun e => e.elim (fun e => e.elim (fun e => n_6__27.symm e) (fun e => e.elim (fun e => n_7__27.symm e) (fun e => n_8__27.symm e))) (fun e => Nat.not_le.2 ltD_b_27 e))) rfl) rfl) ?_;refine RD.tS 8 rfl (fun w' s' => .loadR (x.cells) sh38 rfl (hb_11.step s' (fun e => e.elim (fun e => e.elim (fun e => n_6__11.symm e) (fun e => e.elim (fun e => n_7__11.symm e) (fun e => n_8__11.symm e))) (fun e => Nat.not_le.2 ltD_b_11 e))).row rfl) ?_;refine RD.oneS 9 rfl ?_;refine RL.stS sh26 rfl rfl rfl hb_6 (fun w11 z11 hb_6 a11 => ?_);have S := S.upd a11 ge_6;have hb_5 := hb_5.upd a11 n_5__6;have hb_7 := hb_7.upd a11 n_6__7.symm;have hb_8 := hb_8.upd a11 n_6__8.symm;have hb_11 := hb_11.upd a11 n_6__11.symm;have hbf := hbf.upd a11 n_6__27.symm;have hA1 := hA1.updD a11 dA6
  have hb_6 : Has w11 b_6 (wvA na1 fa1 nc1 fc1 A2) _ := hb_6.now (by kernel_rfl)
  refine RD.backW rfl (a11.mono fun k _ e => e ▸ (.inl (.inl rfl))) ?_;refine RD.oneS 10 rfl ?_;refine RL.stS sh33 rfl rfl rfl hb_7 (fun w12 z12 hb_7 a12 => ?_);have S := S.upd a12 ge_7;have hb_5 := hb_5.upd a12 n_5__7;have hb_6 := hb_6.upd a12 n_6__7;have hb_8 := hb_8.upd a12 n_7__8.symm;have hb_11 := hb_11.upd a12 n_7__11.symm;have hbf := hbf.upd a12 n_7__27.symm;have hA1 := hA1.updD a12 dA7
  have hb_7 : Has w12 b_7 (R2.cells) _ := hb_7.now (by kernel_rfl)
  refine RD.backW rfl (a12.mono fun k _ e => e ▸ (.inl (.inr (.inl rfl)))) ?_;refine RD.oneS 11 rfl ?_;refine RL.stS sh38 rfl rfl rfl hb_8 (fun w13 z13 hb_8 a13 => ?_);have S := S.upd a13 ge_8;have hb_5 := hb_5.upd a13 n_5__8;have hb_6 := hb_6.upd a13 n_6__8;have hb_7 := hb_7.upd a13 n_7__8;have hb_11 := hb_11.upd a13 n_8__11.symm;have hbf := hbf.upd a13 n_8__27.symm;have hA1 := hA1.updD a13 dA8
  have hb_8 : Has w13 b_8 (x.cells) _ := hb_8.now (by kernel_rfl)
  refine RD.backW rfl (a13.mono fun k _ e => e ▸ (.inl (.inr (.inr (rfl))))) ?_;refine RD.tS 12 rfl (fun w' s' => .assign rfl) ?_;refine RD.done (by kernel_rfl) (RC.back ?_);refine RC.done (rs := [.cell 6 26, .cell 7 33, .cell 8 38, .tmp 9]) (vs := [_, _, _, _]) rfl rfl ⟨⟨_, rfl, .inr ⟨wvA na1 fa1 nc1 fc1 A2, sh26, hb_6.row, rfl⟩⟩, ⟨_, rfl, .inr ⟨R2.cells, sh33, hb_7.row, rfl⟩⟩, ⟨_, rfl, .inr ⟨x.cells, sh38, hb_8.row, rfl⟩⟩, rfl, trivial⟩ ?_
  refine ⟨S, x, B, r1, e1, na1, fa1, nc1, fc1, M1, ?_⟩
  rw [← hA2, ← hRp]
  exact ⟨rfl, hn1, hf1, hA1, upM, hu1, by first | exact .inl ⟨hb1, hpp⟩ | exact .inr ⟨hb2, hpp⟩⟩
 ·
  have hb2 : o.box = 2 := hb.resolve_left h5
  refine RC.seq (RC.region rfl ?_);refine RL.eS (.bin rfl rfl rfl) ?_;refine RL.asS rfl ?_;refine RL.nil (RC.back ?_);refine RC.cond_dec rfl (fun h14 => ?_) (fun h14 => ?_)
  ·
   have hb2' := h14
   refine RC.region rfl ?_;refine RL.mvS rfl ?_;refine RL.eS (.loadR (o.cells) sh35 rfl hb_5.row rfl) ?_;refine RL.call rfl ok38 (c_tables b_27 A R _ hR T htab hT o ho hk w_11 hF) rfl rfl ?_;rintro _ w15 ⟨x, B, r1, e1, C1, rfl, hF1, ag, up1, hu1, hpp⟩;have szS1 := S.size;have d_hF1_b_6 := upNe up1 dF6 hb_6.lt;have d_hF1_b_7 := upNe up1 dF7 hb_7.lt;have d_hF1_b_8 := upNe up1 dF8 hb_8.lt;have d_hF1_b_11 := upNe up1 d_hF_b_11 hb_11.lt;have S := S.upd ag ge_27;have hb_6 := hb_6.upd ag n_6__27;have hb_7 := hb_7.upd ag n_7__27;have hb_8 := hb_8.upd ag n_8__27;have hb_11 := hb_11.upd ag n_27__11.symm;refine RL.stS sh38 rfl rfl rfl hb_11 (fun w17 z17 hb_11 a17 => ?_);have S := S.upd a17 ge_11;have hb_6 := hb_6.upd a17 n_6__11;have hb_7 := hb_7.upd a17 n_7__11;have hb_8 := hb_8.upd a17 n_8__11;have hF1 := hF1.updD a17 d_hF1_b_11
   have hb_11 : Has w17 b_11 (x.cells) _ := hb_11.now (by kernel_rfl)
   obtain ⟨A2, hA2⟩ : ∃ A2, A2 = (if e1 = 0 then B else A) := ⟨_, rfl⟩
   obtain ⟨R2, hR2⟩ : ∃ R2, R2 = (if e1 = 0 then { R with t := r1 } else R) := ⟨_, rfl⟩
   rw [← hA2, ← hR2] at hF1
   have hRp : R2 = (if e1 = 0 then putRt o R r1 else R) := (by rw [hR2]; unfold putRt; rw [if_neg (show ¬ o.box = 1 by omega)])
   obtain ⟨hCb1, na1, fa1, nc1, fc1, M1, hbf, hn1, hf1, hA1, hMb1, hMC1⟩ := hF1.now
   have dA6 : ∀ k, M1 k → k ≠ b_6 := (fun k hk => d_hF1_b_6 k (hMC1 k hk))
   have dA7 : ∀ k, M1 k → k ≠ b_7 := (fun k hk => d_hF1_b_7 k (hMC1 k hk))
   have dA8 : ∀ k, M1 k → k ≠ b_8 := (fun k hk => d_hF1_b_8 k (hMC1 k hk))
   have upM : Up M w M1 := (fun k hk => (up1 k (hMC1 k hk)).elim (fun h => h.elim (fun h => .inr (h ▸ ge_27)) .inl) (fun h => .inr (Nat.le_trans szS1 h)))
   refine RL.nil (RC.back (RC.seq ?_));refine RC.drawD (fun k => k = b_6 ∨ k = b_7 ∨ k = b_8) [9, 10, 11] w17.heap.size 13 rfl rfl mxo (fun w18 s19 => ?_)
   have hNN : ∀ k, ((k = b_6 ∨ k = b_7 ∨ k = b_8) ∨ w17.heap.size ≤ k) → w.heap.size ≤ k := fun k e => e.elim (fun e => e.elim (fun e => e ▸ ge_6) (fun e => e.elim (fun e => e ▸ ge_7) (fun e => e ▸ ge_8))) (fun e => Nat.le_trans S.size e)
   have hN0 : ∀ k, w17.heap.size ≤ k → w.heap.size ≤ k := fun k e => Nat.le_trans S.size e
   have ltD_b_11 := hb_11.lt;have ltD_b_27 := hbf.lt;have S := S.trans s19;have hb_6 := hb_6.sub s19;have hb_7 := hb_7.sub s19;have hb_8 := hb_8.sub s19;have hb_11 := hb_11.sub s19;have hbf := hbf.sub s19;have hA1 := hA1.sub s19;refine RD.tS 0 rfl (fun w' s' => .move rfl) ?_;refine RD.tS 1 rfl (fun w' s' => .nilCheck rfl) ?_;refine RD.tS 2 rfl (fun w' s' => .field0 fo109_0 rfl) ?_;refine RD.tS 3 rfl (fun w' s' => .loadR (wvA na1 fa1 nc1 fc1 A2) sh26 rfl (row_pref (xs := wvA na1 fa1 nc1 fc1 A2) (ys := R2.cells) (hbf.step s' (fun e => e.elim (fun e => e.elim (fun e => n_6__27.symm e) (fun e => e.elim (fun e => n_7__27.symm e) (fun e => n_8__27.symm e))) (fun e => Nat.not_le.2 ltD_b_27 e)))) rfl) ?_;refine RD.tS 4 rfl (fun w' s' => .move rfl) ?_;refine RD.tS 5 rfl (fun w' s' => .nilCheck rfl) ?_;refine RD.tS 6 rfl (fun w' s' => .field0 fo109_1 rfl) ?_;refine RD.tS 7 rfl (fun w' s' => .loadR (R2.cells) sh33 rfl (Has.row_at (pre := wvA na1 fa1 nc1 fc1 A2) (mid := R2.cells) (post := []) (hbf.step s' (fun e => e.elim (fun e => e.elim (fun e => n_6__27.symm e) (fun e => e.elim (fun e => n_7__27.symm e) (fun e => n_8__27.symm e))) (fun e => Nat.not_le.2 ltD_b_27 e))) rfl) rfl) ?_;refine RD.tS 8 rfl (fun w' s' => .loadR (x.cells) sh38 rfl (hb_11.step s' (fun e => e.elim (fun e => e.elim (fun e => n_6__11.symm e) (fun e => e.elim (fun e => n_7__11.symm e) (fun e => n_8__11.symm e))) (fun e => Nat.not_le.2 ltD_b_11 e))).row rfl) ?_;refine RD.oneS 9 rfl ?_;refine RL.stS sh26 rfl rfl rfl hb_6 (fun w20 z20 hb_6 a20 => ?_);have S := S.upd a20 ge_6;have hb_7 := hb_7.upd a20 n_6__7.symm;have hb_8 := hb_8.upd a20 n_6__8.symm;have hA1 := hA1.updD a20 dA6
   have hb_6 : Has w20 b_6 (wvA na1 fa1 nc1 fc1 A2) _ := hb_6.now (by kernel_rfl)
   refine RD.backW rfl (a20.mono fun k _ e => e ▸ (.inl (.inl rfl))) ?_;refine RD.oneS 10 rfl ?_;refine RL.stS sh33 rfl rfl rfl hb_7 (fun w21 z21 hb_7 a21 => ?_);have S := S.upd a21 ge_7;have hb_6 := hb_6.upd a21 n_6__7;have hb_8 := hb_8.upd a21 n_7__8.symm;have hA1 := hA1.updD a21 dA7
   have hb_7 : Has w21 b_7 (R2.cells) _ := hb_7.now (by kernel_rfl)
   refine RD.backW rfl (a21.mono fun k _ e => e ▸ (.inl (.inr (.inl rfl)))) ?_;refine RD.oneS 11 rfl ?_;refine RL.stS sh38 rfl rfl rfl hb_8 (fun w22 z22 hb_8 a22 => ?_);have S := S.upd a22 ge_8;have hb_6 := hb_6.upd a22 n_6__8;have hb_7 := hb_7.upd a22 n_7__8;have hA1 := hA1.updD a22 dA8
   have hb_8 : Has w22 b_8 (x.cells) _ := hb_8.now (by kernel_rfl)
   refine RD.backW rfl (a22.mono fun k _ e => e ▸ (.inl (.inr (.inr (rfl))))) ?_;refine RD.tS 12 rfl (fun w' s' => .assign rfl) ?_;refine RD.done (by kernel_rfl) (RC.back ?_);refine RC.done (rs := [.cell 6 26, .cell 7 33, .cell 8 38, .tmp 9]) (vs := [_, _, _, _]) rfl rfl ⟨⟨_, rfl, .inr ⟨wvA na1 fa1 nc1 fc1 A2, sh26, hb_6.row, rfl⟩⟩, ⟨_, rfl, .inr ⟨R2.cells, sh33, hb_7.row, rfl⟩⟩, ⟨_, rfl, .inr ⟨x.cells, sh38, hb_8.row, rfl⟩⟩, rfl, trivial⟩ ?_
   refine ⟨S, x, B, r1, e1, na1, fa1, nc1, fc1, M1, ?_⟩
   rw [← hA2, ← hRp]
   exact ⟨rfl, hn1, hf1, hA1, upM, hu1, by first | exact .inl ⟨hb1, hpp⟩ | exact .inr ⟨hb2, hpp⟩⟩
  ·
   exact absurd hb2 h14
structure PI (n : Nat) (A : Ar) (R : Rt) (L T : List It) : Prop where
  ok : AOk A
  u : R.ok
  r0 : R.r = 0
  h0 : R.h = 0
  map : IsT A R.m L
  tab : IsH A 10 R.t T
  ap : Ap T
  perm : T.Perm L
  keys : ∀ x ∈ L, keyOk x
  len : L.length ≤ n
theorem PI.isC {n : Nat} {A : Ar} {R : Rt} {L T : List It} (h : PI n A R L T) (hn : n ≤ 200) : ∃ S, S.Perm T ∧ Srt S ∧ IsC A R ⟨L, S, [], []⟩ := by
  obtain ⟨S, h1, h2⟩ := srt_exists h.ap
  have hl := h.len
  refine ⟨S, h1, h2, ⟨h.ok, h.map, by show L.length ≤ 200; omega, ⟨T, h.tab, h.ap, by rw [h.perm.length_eq]; omega, h1⟩, h2, ⟨[], by rw [h.r0]; exact .nil⟩, Nat.zero_le _, ⟨[], [], by rw [h.h0]; exact IsP.zero A, .nil⟩, List.Pairwise.nil, ?_⟩⟩
  intro x hx
  simp only [List.append_nil, List.mem_append] at hx
  exact hx.elim (h.keys x) (fun hx => h.keys x (h.perm.mem_iff.1 (h1.mem_iff.1 hx)))
theorem PI.new : PI 0 (newA 512) rt0 [] [] :=
  ⟨newA_ok (by decide), rt0_ok, rfl, rfl, .nil, isH_nil.2 rfl, List.Pairwise.nil, .nil, fun x hx => (by cases hx), Nat.le_refl _⟩
theorem tellR_0 {a b : Int} : tellR 0 a b = ⟨0, a, b⟩ := if_pos rfl
theorem tellR_n {e a b : Int} (h : ¬ e = 0) : tellR e a b = ⟨e, 0, 0⟩ := if_neg h
theorem GetL.hasK {L : List It} {key v n : Int} (h : GetL L key v n) : (n = 0 ∧ hasK L key = true ∧ ∃ x ∈ L, x.k = key ∧ x.v = v) ∨ (n = 3 ∧ v = 0 ∧ hasK L key = false) := by
  rcases h with ⟨h1, h2, h3⟩ | ⟨⟨x, h1, h2, h3⟩, h4⟩
  · exact .inr ⟨h3, h2, hasK_no h1⟩
  · exact .inl ⟨h4, hasK_iff.2 ⟨x, h1, h2⟩, x, h1, h2, h3⟩
theorem get_same {A : Ar} {r : Int} {L T : List It} (ht : isTab A r) (hT : IsH A 10 r T) (hap : Ap T) (hp : T.Perm L) {key v n v' n' : Int} (h1 : GetL L key v n) (h2 : GetPH A r key v' n') : v' = v ∧ n' = n := by
  have e : hasK T key = hasK L key := hasK_perm hp
  rcases h1.hasK with ⟨a1, a2, x, a3, a4, a5⟩ | ⟨a1, a2, a3⟩
  · rcases h2.2 T ht hT hap with ⟨z, b1, b2, b3, b4⟩ | ⟨b1, b2, b3⟩
    · have := hap.key b1 (hp.mem_iff.2 a3) (b2.trans a4.symm)
      rw [b3, b4, a1, this, a5]; exact ⟨rfl, rfl⟩
    · rw [e, a2] at b1; cases b1
  · rcases h2.2 T ht hT hap with ⟨z, b1, b2, b3, b4⟩ | ⟨b1, b2, b3⟩
    · rw [← e, hasK_iff.2 ⟨z, b1, b2⟩] at a3; cases a3
    · rw [b2, b3, a1, a2]; exact ⟨rfl, rfl⟩
theorem tab_isTab {n : Nat} {A : Ar} {R : Rt} {L T : List It} (h : PI n A R L T) (hn : n ≤ 200) : isTab A R.t := ⟨h.ok, T, h.tab, h.ap, by rw [h.perm.length_eq]; have := h.len; omega⟩
theorem map_isMap {n : Nat} {A : Ar} {R : Rt} {L T : List It} (h : PI n A R L T) (hn : n ≤ 200) : isMap A R.m := ⟨h.ok, L, h.map, by have := h.len; omega⟩
def opB (o : OpT) (k : Int) : OpT := { o with box := k }
structure PM (n : Nat) (A : Ar) (R : Rt) (L' T : List It) : Prop where
  ok : AOk A
  u : R.ok
  r0 : R.r = 0
  h0 : R.h = 0
  map : IsT A R.m L'
  tab : IsH A 10 R.t T
  ap : Ap T
  keys : ∀ x ∈ L', keyOk x
  keyt : ∀ x ∈ T, keyOk x
  len : L'.length ≤ n
  lent : T.length ≤ n
theorem PM.isC {n : Nat} {A : Ar} {R : Rt} {L T : List It} (h : PM n A R L T) (hn : n ≤ 200) : ∃ S, IsC A R ⟨L, S, [], []⟩ := by
  obtain ⟨S, h1, h2⟩ := srt_exists h.ap
  have hl := h.len
  have hl2 := h.lent
  refine ⟨S, ⟨h.ok, h.map, by show L.length ≤ 200; omega, ⟨T, h.tab, h.ap, by omega, h1⟩, h2, ⟨[], by rw [h.r0]; exact .nil⟩, Nat.zero_le _, ⟨[], [], by rw [h.h0]; exact IsP.zero A, .nil⟩, List.Pairwise.nil, ?_⟩⟩
  intro x hx
  simp only [List.append_nil, List.mem_append] at hx
  exact hx.elim (h.keys x) (fun hx => h.keyt x (h1.mem_iff.1 hx))
theorem step_map {n : Nat} {A : Ar} {R : Rt} {L T : List It} (h : PI n A R L T) (hn : n ≤ 20) {o : OpT} (ho : -1073741824 ≤ o.a ∧ o.a ≤ 1073741824) {x : RsT} {B : Ar} {r e : Int} (hr : U64 r) (hd : MapsP A R.m L o x B r e) :
    x.e = 2 ∨ ∃ v k L', GetL L o.a v k ∧ PM (n + 1) (if e = 0 then B else A) (if e = 0 then { R with m := r } else R) L' T ∧ Ext A (if e = 0 then B else A) ∧
      ((o.kind = 2 ∧ L' = putL L o.a o.b ∧ x = (if k = 0 then ⟨0, 1, v⟩ else ⟨0, 0, 0⟩)) ∨ (o.kind = 3 ∧ k = 3 ∧ L' = L ∧ x = ⟨3, 0, 0⟩) ∨ (o.kind = 3 ∧ k = 0 ∧ L' = delL L o.a ∧ x = ⟨0, v, 0⟩)) := by
  have hl := h.len
  have hm := map_isMap h (by omega)
  obtain ⟨u1, u2, u3, u4⟩ := h.u
  have hlt : T.length ≤ n + 1 := by rw [h.perm.length_eq]; omega
  have hkt : ∀ x ∈ T, keyOk x := fun x hx => h.keys x (h.perm.mem_iff.1 hx)
  obtain ⟨v, k, hg, ⟨k2, hp, hx⟩ | ⟨k3, hp, hx⟩⟩ := hd
  · rcases hp.2.2 L hm h.map with ⟨hb, _⟩ | ⟨_, he, _⟩ | ⟨_, he, hE, hok, _, hT⟩
    · exfalso
      rcases hb with hb | hb | hb <;> omega
    · left
      rw [hx, he]
      split <;> rw [tellR_n (by decide)]
    · right
      refine ⟨v, k, putL L o.a o.b, hg, ?_, ?_, .inl ⟨k2, rfl, ?_⟩⟩
      · rw [if_pos he, if_pos he]
        exact ⟨hok, ⟨hr, u2, u3, u4⟩, h.r0, h.h0, hT, h.tab.ext hE, h.ap, fun y hy => (putL_mem hy).elim (fun e => by rw [e]; exact ho) (h.keys y), hkt, by have := putL_len (key := o.a) (v := o.b) h.map.srt; omega, hlt⟩
      · rw [if_pos he]; exact hE
      · rw [hx, he]
        split <;> rw [tellR_0]
  · rcases hp.2.2 L hm h.map with ⟨hb, he⟩ | ⟨_, he, _⟩ | ⟨hb, he, hE, hok, _, hT⟩
    · right
      have hne : ¬ e = 0 := by omega
      refine ⟨v, k, L, hg, ?_, ?_, .inr (.inl ⟨k3, ?_, rfl, ?_⟩)⟩
      · rw [if_neg hne, if_neg hne]
        exact ⟨h.ok, h.u, h.r0, h.h0, h.map, h.tab, h.ap, h.keys, hkt, by omega, hlt⟩
      · rw [if_neg hne]; exact Ext.refl _
      · rcases hg.hasK with ⟨_, a2, _⟩ | ⟨a1, _, _⟩
        · rw [hasK_no hb] at a2; cases a2
        · exact a1
      · rw [hx, he, tellR_n (by decide)]
    · left
      rw [hx, he, tellR_n (by decide)]
    · right
      refine ⟨v, k, delL L o.a, hg, ?_, ?_, .inr (.inr ⟨k3, ?_, rfl, ?_⟩)⟩
      · rw [if_pos he, if_pos he]
        exact ⟨hok, ⟨hr, u2, u3, u4⟩, h.r0, h.h0, hT, h.tab.ext hE, h.ap, fun y hy => h.keys y (delL_mem.1 hy).1, hkt, by have := delL_le L o.a; omega, hlt⟩
      · rw [if_pos he]; exact hE
      · rcases hg.hasK with ⟨a1, _, _⟩ | ⟨_, _, a3⟩
        · exact a1
        · obtain ⟨y, hy, e2⟩ := hb; rw [hasK_iff.2 ⟨y, hy, e2⟩] at a3; cases a3
      · rw [hx, he, tellR_0]
theorem step_both {n : Nat} {A : Ar} {R : Rt} {L T L' : List It} (h : PI n A R L T) (hn : n ≤ 20) {A1 : Ar} {R1 : Rt} {o : OpT} (ho : -1073741824 ≤ o.a ∧ o.a ≤ 1073741824) {v k : Int} {x y : RsT} {B : Ar} {r e : Int} (hr : U64 r)
    (hg : GetL L o.a v k) (hm : PM (n + 1) A1 R1 L' T) (hc : (o.kind = 2 ∧ L' = putL L o.a o.b ∧ x = (if k = 0 then ⟨0, 1, v⟩ else ⟨0, 0, 0⟩)) ∨ (o.kind = 3 ∧ k = 3 ∧ L' = L ∧ x = ⟨3, 0, 0⟩) ∨ (o.kind = 3 ∧ k = 0 ∧ L' = delL L o.a ∧ x = ⟨0, v, 0⟩))
    (hd : TabsP A1 R1.t T o y B r e) : y.e = 2 ∨ (¬ x = y ∧ y.e = 5) ∨ (x = y ∧ ∃ T', PI (n + 1) (if e = 0 then B else A1) (if e = 0 then { R1 with t := r } else R1) L' T') := by
  obtain ⟨u1, u2, u3, u4⟩ := hm.u
  have hl := hm.lent
  have htab : isTab A1 R1.t := ⟨hm.ok, T, hm.tab, hm.ap, by omega⟩
  obtain ⟨v', k', hg2, hq⟩ := hd
  obtain ⟨rfl, rfl⟩ := get_same htab hm.tab hm.ap h.perm hg hg2
  have hkp : hasK T o.a = hasK L o.a := hasK_perm h.perm
  rcases hq with ⟨k2, hp, hy⟩ | ⟨k3, hp, hy⟩
  · obtain ⟨hL', hx⟩ : L' = putL L o.a o.b ∧ x = (if k' = 0 then ⟨0, 1, v'⟩ else ⟨0, 0, 0⟩) := by
      rcases hc with ⟨_, a, b⟩ | ⟨a, _⟩ | ⟨a, _⟩
      · exact ⟨a, b⟩
      · omega
      · omega
    have hxe : x.e = 0 := by rw [hx]; split <;> rfl
    rcases hp.2.2 T htab hm.tab hm.ap with ⟨_, he⟩ | ⟨_, he, _⟩ | ⟨_, he, hE, hok, _, hT⟩
    · right; left
      have h5 : y.e = 5 := by
        rw [hy, he]
        split <;> rw [tellR_n (by decide)]
      exact ⟨fun e => by rw [e, h5] at hxe; omega, h5⟩
    · left
      rw [hy, he]
      split <;> rw [tellR_n (by decide)]
    · right; right
      refine ⟨?_, putM T o.a o.b, ?_⟩
      · rw [hx, hy, he]
        split <;> rw [tellR_0]
      · rw [if_pos he, if_pos he]
        exact ⟨hok, ⟨u1, hr, u3, u4⟩, hm.r0, hm.h0, hE.isT hm.map, hT, hm.ap.put, by rw [hL']; exact (putM_perm h.perm).trans putL_putM.symm, hm.keys, hm.len⟩
  · rcases hc with ⟨a, _⟩ | ⟨_, hk3, hL', hx⟩ | ⟨_, hk0, hL', hx⟩
    · omega
    · have hno : hasK T o.a = false := by
        rcases hg.hasK with ⟨a1, _, _⟩ | ⟨_, _, a3⟩
        · omega
        · rw [hkp]; exact a3
      rcases hp.2.2 T htab hm.tab hm.ap with ⟨_, he⟩ | ⟨a, _⟩ | ⟨a, _⟩
      · right; right
        have hne : ¬ e = 0 := by omega
        refine ⟨by rw [hx, hy, he, tellR_n (by decide)], T, ?_⟩
        rw [if_neg hne, if_neg hne]
        exact ⟨hm.ok, hm.u, hm.r0, hm.h0, hm.map, hm.tab, hm.ap, by rw [hL']; exact h.perm, hm.keys, hm.len⟩
      · rw [hno] at a; cases a
      · rw [hno] at a; cases a
    · have hyes : hasK T o.a = true := by
        rcases hg.hasK with ⟨_, a2, _⟩ | ⟨a1, _, _⟩
        · rw [hkp]; exact a2
        · omega
      rcases hp.2.2 T htab hm.tab hm.ap with ⟨a, _⟩ | ⟨_, he, _⟩ | ⟨_, he, hE, hok, _, hT⟩
      · rw [hyes] at a; cases a
      · left
        rw [hy, he, tellR_n (by decide)]
      · right; right
        refine ⟨by rw [hx, hy, he, tellR_0], delL T o.a, ?_⟩
        rw [if_pos he, if_pos he]
        exact ⟨hok, ⟨u1, hr, u3, u4⟩, hm.r0, hm.h0, hE.isT hm.map, hT, hm.ap.del, by rw [hL']; exact delL_perm h.perm, hm.keys, hm.len⟩
theorem maps_e {A : Ar} {r : Int} {L : List It} {o : OpT} {x : RsT} {B : Ar} {r' e : Int} (hd : MapsP A r L o x B r' e) (h : x.e = 2) : ¬ e = 0 := by
  intro he
  obtain ⟨v, k, _, ⟨_, _, hx⟩ | ⟨_, _, hx⟩⟩ := hd
  · rw [he] at hx
    have : x.e = 0 := by rw [hx]; split <;> rw [tellR_0]
    omega
  · rw [he] at hx
    have : x.e = 0 := by rw [hx, tellR_0]
    omega
def MidP (L L' : List It) (o : OpT) (x : RsT) : Prop := ∃ v k, GetL L o.a v k ∧ ((o.kind = 2 ∧ L' = putL L o.a o.b ∧ x = (if k = 0 then ⟨0, 1, v⟩ else ⟨0, 0, 0⟩)) ∨ (o.kind = 3 ∧ k = 3 ∧ L' = L ∧ x = ⟨3, 0, 0⟩) ∨ (o.kind = 3 ∧ k = 0 ∧ L' = delL L o.a ∧ x = ⟨0, v, 0⟩))
theorem step_mid {n : Nat} {A : Ar} {R : Rt} {L T : List It} (h : PI n A R L T) (hn : n ≤ 20) {o : OpT} (hb : o.box = 1) (ho : -1073741824 ≤ o.a ∧ o.a ≤ 1073741824) {x : RsT} {B : Ar} {r e : Int} (hr : U64 r) (hd : DoP A R L T o x B r e) :
    ∃ L', PM (n + 1) (if e = 0 then B else A) (if e = 0 then putRt o R r else R) L' T ∧ (x.e = 2 ∨ MidP L L' o x) := by
  have hd : MapsP A R.m L o x B r e := hd.elim (fun h => h.2) (fun h => absurd h.1 (by omega))
  have e1 : putRt o R r = { R with m := r } := by unfold putRt; rw [if_pos hb]
  rw [e1]
  rcases step_map h hn ho hr hd with h2 | ⟨v, k, L', h1, h2, _, h3⟩
  · have hne := maps_e hd h2
    rw [if_neg hne, if_neg hne]
    have hl := h.len
    exact ⟨L, ⟨h.ok, h.u, h.r0, h.h0, h.map, h.tab, h.ap, h.keys, fun x hx => h.keys x (h.perm.mem_iff.1 hx), by omega, by rw [h.perm.length_eq]; omega⟩, .inl h2⟩
  · exact ⟨L', h2, .inr ⟨v, k, h1, h3⟩⟩
theorem step_end2 {n : Nat} {A : Ar} {R : Rt} {L T L' : List It} (h : PI n A R L T) (hn : n ≤ 20) {A1 : Ar} {R1 : Rt} {o o1 : OpT} (hb : o.box = 2) (ha : o1.a = o.a ∧ o1.b = o.b ∧ o1.kind = o.kind) (ho : -1073741824 ≤ o.a ∧ o.a ≤ 1073741824) {x y : RsT} {B : Ar} {r e : Int} (hr : U64 r)
    (hm : PM (n + 1) A1 R1 L' T) (hc : MidP L L' o1 x) (hd : DoP A1 R1 L' T o y B r e) : y.e = 2 ∨ (¬ x = y ∧ y.e = 5) ∨ (x = y ∧ ∃ T', PI (n + 1) (if e = 0 then B else A1) (if e = 0 then putRt o R1 r else R1) L' T') := by
  have hd : TabsP A1 R1.t T o y B r e := hd.elim (fun h => absurd h.1 (by omega)) (fun h => h.2)
  have e1 : putRt o R1 r = { R1 with t := r } := by unfold putRt; rw [if_neg (show ¬ o.box = 1 by omega)]
  rw [e1]
  obtain ⟨v, k, h1, h2⟩ := hc
  rw [ha.1, ha.2.1, ha.2.2] at h2
  rw [ha.1] at h1
  exact step_both h hn ho hr h1 hm h2 hd
theorem PI.mono {n m : Nat} {A : Ar} {R : Rt} {L T : List It} (h : PI n A R L T) (hn : n ≤ m) : PI m A R L T := ⟨h.ok, h.u, h.r0, h.h0, h.map, h.tab, h.ap, h.perm, h.keys, Nat.le_trans h.len hn⟩
theorem both_ok {o : OpT} (h : okP o) (hb : ¬ o.box > 2) (hk : o.kind = 2 ∨ o.kind = 3) : okP (opB o 1) ∧ okP (opB o 2) ∧ (-1073741824 ≤ o.a ∧ o.a ≤ 1073741824) := by
  obtain ⟨h1, h2, h3, h4, h5, h6, h7⟩ := h
  obtain ⟨k1, k2, k3, k4, k5⟩ := h1
  refine ⟨⟨⟨by show (1 : Int) ≤ 1; omega, by show (1 : Int) ≤ 4; omega, k3, k4, ?_⟩, h2, h3, h4, h5, ?_, ?_⟩, ⟨⟨by show (1 : Int) ≤ 2; omega, by show (2 : Int) ≤ 4; omega, k3, k4, ?_⟩, h2, h3, h4, h5, ?_, ?_⟩, h2, h3⟩
  all_goals simp only [opB, hasAP, hasBP] at *
  all_goals omega
theorem fit_op (r : List Value) (h : fitsR [some .i64, some .i64, some .i64, some .i64] r) : ∃ x : OpT, r = x.cells ∧ x.ok := by
  obtain ⟨_, _, rfl, h0, h⟩ := fitsR_cons h
  obtain ⟨_, _, rfl, h1, h⟩ := fitsR_cons h
  obtain ⟨_, _, rfl, h2, h⟩ := fitsR_cons h
  obtain ⟨_, _, rfl, h3, h⟩ := fitsR_cons h
  obtain rfl := fitsR_nil h
  obtain ⟨a, rfl, g⟩ := fitI h0
  obtain ⟨b, rfl, k⟩ := fitI h1
  obtain ⟨c, rfl, k2⟩ := fitI h2
  obtain ⟨d, rfl, k3⟩ := fitI h3
  exact ⟨⟨a, b, c, d⟩, rfl, g, k, k2, k3⟩
section
variable {H : Type} {enc : TypeId × Value → H} {W : World} {base : Nat} {sp : Nat → Bool} {held : Bool} {v : Value} {d : DataW H} {ps : List MemPlace} {r : Reach} {b : Nat}
set_option maxRecDepth 100000 in
theorem open_ops (hok : Value.okWide Tryz.prog W r b 22 v) (h : DataW.Trod enc Tryz.prog W base sp held 22 v d ps) : ∃ (a : Option Addr) (l : List OpT) (c : Nat), v = .slice a l.length c ∧ l.length ≤ c ∧ c ≤ maxLen ∧ Sl W a 4 (l.map OpT.cells) ∧ ∀ x ∈ l, x.ok :=
  open_sl OpT.cells OpT.ok sl22 fk35 rfl fit_op hok h
end
theorem pairs_get {L : List It} (hs : Srt L) {y : It} (hy : y ∈ L) {v n : Int} (h : ((∀ x ∈ L, ¬ x.k = y.k) ∧ v = 0 ∧ n = 3) ∨ (∃ x ∈ L, x.k = y.k ∧ x.v = v) ∧ n = 0) : v = y.v ∧ n = 0 := by
  rcases h with ⟨h1, _, _⟩ | ⟨⟨x, h1, h2, h3⟩, h4⟩
  · exact absurd rfl (h1 y hy)
  · have := hs.ap.key h1 hy h2
    rw [← h3, this]; exact ⟨rfl, h4⟩
structure PSt where
  i : Nat
  A : Ar
  R : Rt
  L : List It
  T : List It
  na : Option Addr
  fa : Option Addr
  nc : Nat
  fc : Nat
  M : Nat → Prop
theorem eqL_rs (x y : RsT) : eqL x.cells y.cells = decide (x = y) := by
  obtain ⟨a, b, c⟩ := x
  obtain ⟨d, e, f⟩ := y
  simp [eqL, eq1, RsT.cells]
  rfl
set_option maxHeartbeats 4000000 in
theorem law_TopPairs (w : World) (l : List OpT) (pa : Option Addr) (pc : Nat) (hlc : l.length ≤ pc) (hcm : pc ≤ maxLen) (hs : Sl w pa 4 (l.map OpT.cells)) (hli : ∀ x ∈ l, x.ok) :
  FC Tryz.prog 3 [.slice pa l.length pc] w (Val (.bool true) w) := by
 have hll : l.length ≤ 9223372036854775807 := Nat.le_trans hlc (Nat.le_trans hcm (by decide))
 refine FC.intro Tryz.func3 rfl Tryz.ntmps3 rfl ?_
 have S := Sub.refl w
 refine RC.seq (RC.region rfl ?_);refine RL.asS rfl ?_;refine RL.nil (RC.back (RC.seq (RC.region rfl ?_)));refine RL.call rfl ok10 (c_aNew 512 (by decide) w) rfl rfl ?_;rintro _ w1 ⟨na0, fa0, nc0, fc0, rfl, hnc0, hfc0, hi0, s2⟩
 have hA0 := Ft.new hi0 s2
 have up0 := Mnew_up s2
 have S := S.trans s2;refine RL.mvS rfl ?_;refine RL.eS (.extract rfl rfl) ?_;refine RL.eS (.as (v' := .int .i64 0) (.extract rfl rfl) (by rfl)) ?_;refine RL.alloc ze26 rfl rfl (fun b_3 w_3 e_3 z_3 hb_3 s_3 => ?_);have ge_3 := S.le e_3;have d_hA0_b_3 := hA0.neNew e_3;have S := S.trans s_3;have hA0 := hA0.sub s_3;refine RL.stS sh26 rfl rfl rfl hb_3 (fun w3 z3 hb_3 a3 => ?_);have S := S.upd a3 ge_3;have hA0 := hA0.updD a3 d_hA0_b_3
 have hb_3 : Has w3 b_3 (wvA na0 fa0 nc0 fc0 (newA 512)) _ := hb_3.now (by kernel_rfl)
 refine RL.asS rfl ?_;refine RL.nil (RC.back (RC.seq (RC.region rfl ?_)));refine RL.alloc ze33 rfl rfl (fun b_5 w_5 e_5 z_5 hb_5 s_5 => ?_);have ge_5 := S.le e_5;have n_3__5 := hb_3.ne e_5;have d_hA0_b_5 := hA0.neNew e_5;have S := S.trans s_5;have hA0 := hA0.sub s_5;have hb_3 := hb_3.sub s_5
 have hb_5 : Has w_5 b_5 rt0.cells _ := hb_5
 refine RL.nil (RC.back ?_);refine RC.cutx (α := PSt) (fun z => [(3, .pointer (some ⟨b_3, 0, none⟩)), (4, .int .i64 0), (5, .pointer (some ⟨b_5, 0, none⟩))]) (fun z w4 => (z.i ≤ 10 ∧ z.A.nodes.length ≤ z.nc ∧ z.A.free.length ≤ z.fc) ∧ PI z.i z.A z.R z.L z.T ∧ Has w4 b_3 (wvA z.na z.fa z.nc z.fc z.A) 26 ∧ Has w4 b_5 z.R.cells 33 ∧ Ft z.M (fun u => ArR u z.na z.fa z.A) w4 ∧ Sub w w4) ?_ (fun z w4 hJ => ?_)
 ·
  refine RC.seq (RC.region rfl ?_);refine RL.mvS rfl ?_;refine RL.eS (.len sl22 rfl) ?_;refine RL.mvS rfl ?_;refine RL.nil (RC.back (RC.block ?_));refine RC.loop (α := PSt) (fun x => [(3, .pointer (some ⟨b_3, 0, none⟩)), (4, .int .i64 0), (5, .pointer (some ⟨b_5, 0, none⟩)), (28, .slice pa l.length pc), (29, .int .i64 (l.length : Int)), (30, .int .i64 (x.i : Int))]) (fun x w5 => (x.i ≤ l.length ∧ x.i ≤ 10 ∧ x.A.nodes.length ≤ x.nc ∧ x.A.free.length ≤ x.fc) ∧ PI x.i x.A x.R x.L x.T ∧ Has w5 b_3 (wvA x.na x.fa x.nc x.fc x.A) 26 ∧ Has w5 b_5 x.R.cells 33 ∧ Ft x.M (fun u => ArR u x.na x.fa x.A) w5 ∧ (∀ k, x.M k → k ≠ b_3) ∧ (∀ k, x.M k → k ≠ b_5) ∧ Sub w w5) (fun x => l.length - x.i) ⟨0, newA 512, rt0, [], [], na0, fa0, nc0, fc0, _⟩ (keep_of (by repeat (first | exact trivial | refine And.intro rfl ?_))) (⟨⟨Nat.zero_le _, Nat.zero_le _, hnc0, hfc0⟩, PI.new, hb_3, hb_5, hA0, d_hA0_b_3, d_hA0_b_5, S⟩) (fun x w5 hJ => ?_)
  obtain ⟨i, A, R, L, T, na, fa, nc, fc, M⟩ := x; obtain ⟨⟨hi, hi10, hnc, hfc⟩, hP, hb_3, hb_5, hA, dA3, dA5, S⟩ := hJ; simp only [] at hi hi10 hnc hfc hP hb_3 hb_5 hA dA3 dA5
  refine RC.seq (RC.region rfl ?_);refine RL.eS (.bin rfl rfl rfl) ?_;refine RL.nil (RC.back (RC.seq ?_));refine RC.cond_dec rfl (fun h6 => ?_) (fun h6 => ?_)
  ·
   have h31 : (i : Int) < (l.length : Int) := h6
   obtain ⟨o, ho⟩ := getSome (l := l) (i := i) (by omega)
   have hoo := hli o (List.mem_of_getElem? ho)
   refine RC.skip (RC.back (RC.seq (RC.block (RC.seq (RC.region rfl ?_)))));refine RL.mvS rfl ?_;refine RL.eS (.indexS sl22 rfl rfl (by omega) (hs.is (i := 0) (by simp only [List.length_map, List.length_cons, List.length_nil]; omega))) ?_;refine RL.eS (.loadR (o.cells) sh35 rfl ((hs.sub S).rowAt (enc := OpT.cells) (i := i) ho) rfl) ?_;refine RL.alloc ze35 rfl rfl (fun b_7 w_7 e_7 z_7 hb_7 s_7 => ?_);have ge_7 := S.le e_7;have n_3__7 := hb_3.ne e_7;have n_5__7 := hb_5.ne e_7;have d_hA_b_7 := hA.neNew e_7;have S := S.trans s_7;have hb_3 := hb_3.sub s_7;have hb_5 := hb_5.sub s_7;have hA := hA.sub s_7;refine RL.asS rfl ?_;refine RL.stS sh35 rfl rfl rfl hb_7 (fun w7 z7 hb_7 a7 => ?_);have S := S.upd a7 ge_7;have hb_3 := hb_3.upd a7 n_3__7;have hb_5 := hb_5.upd a7 n_5__7;have hA := hA.updD a7 d_hA_b_7
   have hb_7 : Has w7 b_7 (o.cells) _ := hb_7.now (by kernel_rfl)
   refine RL.nil (RC.back (RC.seq (RC.seq (RC.region rfl ?_))));refine RL.mvS rfl ?_;refine RL.eS (.bin rfl rfl rfl) ?_;refine RL.mvS rfl ?_;refine RL.split 37 rfl (fun h8 => ?_) (fun h8 => ?_)
   ·
    have q37 := h8
    refine RL.offs 4 rfl ?_;refine RL.eS (.pick_t rfl rfl) ?_;refine RL.nil (RC.back ?_);refine RC.cond_t rfl ?_
    exact RC.exit rfl (fun a ka => ⟨⟨i, A, R, L, T, na, fa, nc, fc, M⟩, ⟨⟨hi10, hnc, hfc⟩, hP, hb_3, hb_5, hA, S⟩, ka.keep (keep_of (by repeat (first | exact trivial | refine And.intro rfl ?_)))⟩)
   ·
    have q37 : ¬ ((i : Int) ≥ 10) := h8
    refine RL.eS (.field0 fo26_1 rfl) ?_;refine RL.eS (.load1 sh24 rfl (hb_3.cell rfl)) ?_;refine RL.eS (.len sl24 rfl) ?_;refine RL.eS (.bin rfl rfl rfl) ?_;refine RL.eS (.pick_f rfl rfl) ?_;refine RL.nil (RC.back ?_);refine RC.cond_dec rfl (fun h9 => ?_) (fun h9 => ?_)
    ·
     exact RC.exit rfl (fun a ka => ⟨⟨i, A, R, L, T, na, fa, nc, fc, M⟩, ⟨⟨hi10, hnc, hfc⟩, hP, hb_3, hb_5, hA, S⟩, ka.keep (keep_of (by repeat (first | exact trivial | refine And.intro rfl ?_)))⟩)
    ·
     refine RC.skip (RC.back ?_);refine RC.cutx (α := Unit) (fun _ => [(3, .pointer (some ⟨b_3, 0, none⟩)), (4, .int .i64 0), (5, .pointer (some ⟨b_5, 0, none⟩)), (7, .pointer (some ⟨b_7, 0, none⟩)), (28, .slice pa l.length pc), (29, .int .i64 (l.length : Int)), (30, .int .i64 (i : Int))]) (fun _ w10 => (okP o ∧ ¬ o.box > 2 ∧ (o.kind = 2 ∨ o.kind = 3)) ∧ Has w10 b_3 (wvA na fa nc fc A) 26 ∧ Has w10 b_5 R.cells 33 ∧ Has w10 b_7 o.cells 35 ∧ Ft M (fun u => ArR u na fa A) w10 ∧ (∀ k, M k → k ≠ b_7) ∧ Sub w w10) ?_ (fun _ w10 hJ => ?_)
     ·
      refine RC.seq (RC.region rfl ?_);refine RL.eS (.loadR (o.cells) sh35 rfl hb_7.row rfl) ?_;refine RL.call rfl ok11 (c_ref13Right o w7) rfl rfl ?_;rintro _ w11 ⟨rfl, s12⟩;have S := S.trans s12;have hb_3 := hb_3.sub s12;have hb_5 := hb_5.sub s12;have hA := hA.sub s12;have hb_7 := hb_7.sub s12;refine RL.eS (.not_dec rfl) ?_;refine RL.mvS rfl ?_;refine RL.split 46 rfl (fun h13 => ?_) (fun h13 => ?_)
      ·
       have q46 := h13
       refine RL.offs 3 rfl ?_;refine RL.eS (.pick_t rfl rfl) ?_;refine RL.mvS rfl ?_;refine RL.offs 8 rfl ?_;refine RL.eS (.pick_t rfl rfl) ?_;refine RL.nil (RC.back ?_);refine RC.cond_t rfl ?_;refine RC.exit rfl (RC.back (RC.region rfl ?_));refine RL.eS (.as (.bin rfl rfl rfl) (wi64 (y := ((i + 1 : Nat) : Int)) (by show (i : Int) + 1 = _; omega) (by omega))) ?_;refine RL.mvS rfl ?_
       exact RL.nil (fun a ka => ⟨⟨i + 1, A, R, L, T, na, fa, nc, fc, M⟩, ⟨⟨by show i + 1 ≤ l.length; omega, by show i + 1 ≤ 10; omega, hnc, hfc⟩, hP.mono (Nat.le_succ _), hb_3, hb_5, hA, dA3, dA5, S⟩, by show l.length - (i + 1) < l.length - i; omega, ka.keep (keep_of (by repeat (first | exact trivial | refine And.intro rfl ?_)))⟩)
      ·
       have q46 : okP o := (by simpa using h13)
       refine RL.eS (.field0 fo35_0 rfl) ?_;refine RL.eS (.load1 sh3 rfl (hb_7.cell rfl)) ?_;refine RL.eS (.bin rfl rfl rfl) ?_;refine RL.eS (.pick_f rfl rfl) ?_;refine RL.mvS rfl ?_;refine RL.split 51 rfl (fun h14 => ?_) (fun h14 => ?_)
       ·
        refine RL.offs 8 rfl ?_;refine RL.eS (.pick_t rfl rfl) ?_;refine RL.nil (RC.back ?_);refine RC.cond_t rfl ?_;refine RC.exit rfl (RC.back (RC.region rfl ?_));refine RL.eS (.as (.bin rfl rfl rfl) (wi64 (y := ((i + 1 : Nat) : Int)) (by show (i : Int) + 1 = _; omega) (by omega))) ?_;refine RL.mvS rfl ?_
        exact RL.nil (fun a ka => ⟨⟨i + 1, A, R, L, T, na, fa, nc, fc, M⟩, ⟨⟨by show i + 1 ≤ l.length; omega, by show i + 1 ≤ 10; omega, hnc, hfc⟩, hP.mono (Nat.le_succ _), hb_3, hb_5, hA, dA3, dA5, S⟩, by show l.length - (i + 1) < l.length - i; omega, ka.keep (keep_of (by repeat (first | exact trivial | refine And.intro rfl ?_)))⟩)
       ·
        have q51 : ¬ o.box > 2 := h14
        refine RL.eS (.field0 fo35_1 rfl) ?_;refine RL.eS (.load1 sh3 rfl (hb_7.cell rfl)) ?_;refine RL.eS (.bin rfl rfl rfl) ?_;refine RL.mvS rfl ?_;refine RL.split 55 rfl (fun h15 => ?_) (fun h15 => ?_)
        ·
         have q55 := h15
         refine RL.eS (.field0 fo35_1 rfl) ?_;refine RL.eS (.load1 sh3 rfl (hb_7.cell rfl)) ?_;refine RL.eS (.bin rfl rfl rfl) ?_;refine RL.eS (.pick_t rfl rfl) ?_;refine RL.eS (.pick_f rfl rfl) ?_;refine RL.nil (RC.back ?_);refine RC.cond_dec rfl (fun h16 => ?_) (fun h16 => ?_)
         ·
          refine RC.exit rfl (RC.back (RC.region rfl ?_));refine RL.eS (.as (.bin rfl rfl rfl) (wi64 (y := ((i + 1 : Nat) : Int)) (by show (i : Int) + 1 = _; omega) (by omega))) ?_;refine RL.mvS rfl ?_
          exact RL.nil (fun a ka => ⟨⟨i + 1, A, R, L, T, na, fa, nc, fc, M⟩, ⟨⟨by show i + 1 ≤ l.length; omega, by show i + 1 ≤ 10; omega, hnc, hfc⟩, hP.mono (Nat.le_succ _), hb_3, hb_5, hA, dA3, dA5, S⟩, by show l.length - (i + 1) < l.length - i; omega, ka.keep (keep_of (by repeat (first | exact trivial | refine And.intro rfl ?_)))⟩)
         ·
          have q60 := h16
          exact RC.skip (fun a ka => ⟨(), ⟨⟨q46, q51, by first | exact .inl q55 | exact .inr (Decidable.not_not.1 q60)⟩, hb_3, hb_5, hb_7, hA, d_hA_b_7, S⟩, ka.keep (keep_of (by repeat (first | exact trivial | refine And.intro rfl ?_)))⟩)
        ·
         have q55 : o.kind = 2 := Decidable.not_not.1 h15
         refine RL.offs 3 rfl ?_;refine RL.eS (.pick_f rfl rfl) ?_;refine RL.eS (.pick_f rfl rfl) ?_;refine RL.nil (RC.back ?_);refine RC.cond_f rfl ?_
         exact RC.skip (fun a ka => ⟨(), ⟨⟨q46, q51, by first | exact .inl q55 | exact .inr (Decidable.not_not.1 q60)⟩, hb_3, hb_5, hb_7, hA, d_hA_b_7, S⟩, ka.keep (keep_of (by repeat (first | exact trivial | refine And.intro rfl ?_)))⟩)
     obtain ⟨⟨q46, q51, hk⟩, hb_3, hb_5, hb_7, hA, dA7, S⟩ := hJ
     refine RC.seq (RC.region rfl ?_);refine RL.eS (.field0 fo35_0 rfl) ?_;refine RL.stS sh3 rfl rfl rfl hb_7 (fun w17 z17 hb_7 a17 => ?_);have S := S.upd a17 ge_7;have hb_3 := hb_3.upd a17 n_3__7;have hb_5 := hb_5.upd a17 n_5__7;have hA := hA.updD a17 dA7
     have hb_7 : Has w17 b_7 (opB o 1).cells _ := hb_7.eqc (by kernel_rfl)
     obtain ⟨okp1, okp2, hkey⟩ := both_ok q46 q51 hk
     have hn10 : i < 10 := (by omega)
     obtain ⟨Sx, _, _, hC1⟩ := hP.isC (by omega)
     refine RL.nil (RC.back (RC.seq (RC.region rfl ?_)));refine RL.eS (.loadR (wvA na fa nc fc A) sh26 rfl hb_3.row rfl) ?_;refine RL.eS (.loadR (R.cells) sh33 rfl hb_5.row rfl) ?_;refine RL.eS (.loadR ((opB o 1).cells) sh35 rfl hb_7.row rfl) ?_;refine RL.call rfl ok12 (c_do12 A na fa nc fc hnc hfc R hP.u hP.h0 ⟨L, Sx, [], []⟩ hC1 T hP.tab (opB o 1) ⟨by show I64 1; unfold I64; decide, hoo.2⟩ okp1 (.inl rfl) hk M w17 hA) rfl rfl ?_;rintro _ w18 ⟨s19, x1, B1, r1, e1, na1, fa1, nc1, fc1, M1, rfl, hn1, hf1, hA1, up1, hu1, hd1⟩
     obtain ⟨L1, hPM, hmid⟩ := step_mid (o := opB o 1) hP (by omega) rfl hkey hu1 hd1
     obtain ⟨A1, eA1⟩ : ∃ A1, A1 = (if e1 = 0 then B1 else A) := ⟨_, rfl⟩
     obtain ⟨R1, eR1⟩ : ∃ R1, R1 = (if e1 = 0 then putRt (opB o 1) R r1 else R) := ⟨_, rfl⟩
     rw [← eA1] at hn1 hf1 hA1
     rw [← eA1, ← eR1] at hPM
     rw [← eA1, ← eR1]
     have d_hA1_b_3 := upNe up1 dA3 hb_3.lt;have d_hA1_b_5 := upNe up1 dA5 hb_5.lt;have d_hA1_b_7 := upNe up1 dA7 hb_7.lt;have S := S.trans s19;have hb_3 := hb_3.sub s19;have hb_5 := hb_5.sub s19;have hb_7 := hb_7.sub s19;have hA := hA.sub s19;refine RL.mvS rfl ?_;refine RL.eS (.extract rfl rfl) ?_;refine RL.eS (.extract rfl rfl) ?_;refine RL.eS (.extract rfl rfl) ?_;refine RL.eS (.as (v' := .int .i64 0) (.extract rfl rfl) (by rfl)) ?_;refine RL.alloc ze26 rfl rfl (fun b_8 w_8 e_8 z_8 hb_8 s_8 => ?_);have ge_8 := S.le e_8;have n_3__8 := hb_3.ne e_8;have n_5__8 := hb_5.ne e_8;have n_7__8 := hb_7.ne e_8;have d_hA_b_8 := hA.neNew e_8;have d_hA1_b_8 := hA1.neNew e_8;have S := S.trans s_8;have hb_3 := hb_3.sub s_8;have hb_5 := hb_5.sub s_8;have hb_7 := hb_7.sub s_8;have hA := hA.sub s_8;have hA1 := hA1.sub s_8;refine RL.alloc ze33 rfl rfl (fun b_9 w_9 e_9 z_9 hb_9 s_9 => ?_);have ge_9 := S.le e_9;have n_3__9 := hb_3.ne e_9;have n_5__9 := hb_5.ne e_9;have n_7__9 := hb_7.ne e_9;have n_8__9 := hb_8.ne e_9;have d_hA_b_9 := hA.neNew e_9;have d_hA1_b_9 := hA1.neNew e_9;have S := S.trans s_9;have hb_3 := hb_3.sub s_9;have hb_5 := hb_5.sub s_9;have hb_7 := hb_7.sub s_9;have hA := hA.sub s_9;have hA1 := hA1.sub s_9;have hb_8 := hb_8.sub s_9;refine RL.alloc ze38 rfl rfl (fun b_10 w_10 e_10 z_10 hb_10 s_10 => ?_);have ge_10 := S.le e_10;have n_3__10 := hb_3.ne e_10;have n_5__10 := hb_5.ne e_10;have n_7__10 := hb_7.ne e_10;have n_8__10 := hb_8.ne e_10;have n_9__10 := hb_9.ne e_10;have d_hA_b_10 := hA.neNew e_10;have d_hA1_b_10 := hA1.neNew e_10;have S := S.trans s_10;have hb_3 := hb_3.sub s_10;have hb_5 := hb_5.sub s_10;have hb_7 := hb_7.sub s_10;have hA := hA.sub s_10;have hA1 := hA1.sub s_10;have hb_8 := hb_8.sub s_10;have hb_9 := hb_9.sub s_10;refine RL.stS sh26 rfl rfl rfl hb_8 (fun w20 z20 hb_8 a20 => ?_);have S := S.upd a20 ge_8;have hb_3 := hb_3.upd a20 n_3__8;have hb_5 := hb_5.upd a20 n_5__8;have hb_7 := hb_7.upd a20 n_7__8;have hA := hA.updD a20 d_hA_b_8;have hA1 := hA1.updD a20 d_hA1_b_8;have hb_9 := hb_9.upd a20 n_8__9.symm;have hb_10 := hb_10.upd a20 n_8__10.symm
     have hb_8 : Has w20 b_8 (wvA na1 fa1 nc1 fc1 A1) _ := hb_8.now (by kernel_rfl)
     refine RL.stS sh33 rfl rfl rfl hb_9 (fun w21 z21 hb_9 a21 => ?_);have S := S.upd a21 ge_9;have hb_3 := hb_3.upd a21 n_3__9;have hb_5 := hb_5.upd a21 n_5__9;have hb_7 := hb_7.upd a21 n_7__9;have hA := hA.updD a21 d_hA_b_9;have hA1 := hA1.updD a21 d_hA1_b_9;have hb_8 := hb_8.upd a21 n_8__9;have hb_10 := hb_10.upd a21 n_9__10.symm
     have hb_9 : Has w21 b_9 (R1.cells) _ := hb_9.now (by kernel_rfl)
     refine RL.stS sh38 rfl rfl rfl hb_10 (fun w22 z22 hb_10 a22 => ?_);have S := S.upd a22 ge_10;have hb_3 := hb_3.upd a22 n_3__10;have hb_5 := hb_5.upd a22 n_5__10;have hb_7 := hb_7.upd a22 n_7__10;have hA := hA.updD a22 d_hA_b_10;have hA1 := hA1.updD a22 d_hA1_b_10;have hb_8 := hb_8.upd a22 n_8__10;have hb_9 := hb_9.upd a22 n_9__10
     have hb_10 : Has w22 b_10 (x1.cells) _ := hb_10.now (by kernel_rfl)
     refine RL.asS rfl ?_;refine RL.nil (RC.back (RC.seq (RC.region rfl ?_)));refine RL.eS (.field0 fo35_0 rfl) ?_;refine RL.stS sh3 rfl rfl rfl hb_7 (fun w23 z23 hb_7 a23 => ?_);have S := S.upd a23 ge_7;have hb_3 := hb_3.upd a23 n_3__7;have hb_5 := hb_5.upd a23 n_5__7;have hA := hA.updD a23 dA7;have hA1 := hA1.updD a23 d_hA1_b_7;have hb_8 := hb_8.upd a23 n_7__8.symm;have hb_9 := hb_9.upd a23 n_7__9.symm;have hb_10 := hb_10.upd a23 n_7__10.symm
     have hb_7 : Has w23 b_7 (opB o 2).cells _ := hb_7.eqc (by kernel_rfl)
     obtain ⟨S1x, hC2⟩ := hPM.isC (by omega)
     refine RL.nil (RC.back (RC.seq (RC.region rfl ?_)));refine RL.eS (.loadR (wvA na1 fa1 nc1 fc1 A1) sh26 rfl hb_8.row rfl) ?_;refine RL.eS (.loadR (R1.cells) sh33 rfl hb_9.row rfl) ?_;refine RL.eS (.loadR ((opB o 2).cells) sh35 rfl hb_7.row rfl) ?_;refine RL.call rfl ok12 (c_do12 A1 na1 fa1 nc1 fc1 hn1 hf1 R1 hPM.u hPM.h0 ⟨L1, S1x, [], []⟩ hC2 T hPM.tab (opB o 2) ⟨by show I64 2; unfold I64; decide, hoo.2⟩ okp2 (.inr rfl) hk M1 w23 hA1) rfl rfl ?_;rintro _ w24 ⟨s25, y1, B2, r2, e2, na2, fa2, nc2, fc2, M2, rfl, hn2, hf2, hA2, up2, hu2, hd2⟩
     obtain ⟨A2, eA2⟩ : ∃ A2, A2 = (if e2 = 0 then B2 else A1) := ⟨_, rfl⟩
     obtain ⟨R2, eR2⟩ : ∃ R2, R2 = (if e2 = 0 then putRt (opB o 2) R1 r2 else R1) := ⟨_, rfl⟩
     rw [← eA2] at hn2 hf2 hA2
     rw [← eA2, ← eR2]
     have d_hA2_b_3 := upNe up2 d_hA1_b_3 hb_3.lt;have d_hA2_b_5 := upNe up2 d_hA1_b_5 hb_5.lt;have S := S.trans s25;have hb_3 := hb_3.sub s25;have hb_5 := hb_5.sub s25;have hA := hA.sub s25;have hb_10 := hb_10.sub s25;refine RL.mvS rfl ?_;refine RL.eS (.extract rfl rfl) ?_;refine RL.eS (.extract rfl rfl) ?_;refine RL.eS (.extract rfl rfl) ?_;refine RL.eS (.as (v' := .int .i64 0) (.extract rfl rfl) (by rfl)) ?_;refine RL.alloc ze26 rfl rfl (fun b_12 w_12 e_12 z_12 hb_12 s_12 => ?_);have ge_12 := S.le e_12;have n_3__12 := hb_3.ne e_12;have n_5__12 := hb_5.ne e_12;have n_10__12 := hb_10.ne e_12;have d_hA_b_12 := hA.neNew e_12;have d_hA2_b_12 := hA2.neNew e_12;have S := S.trans s_12;have hb_3 := hb_3.sub s_12;have hb_5 := hb_5.sub s_12;have hA := hA.sub s_12;have hb_10 := hb_10.sub s_12;have hA2 := hA2.sub s_12;refine RL.alloc ze33 rfl rfl (fun b_13 w_13 e_13 z_13 hb_13 s_13 => ?_);have ge_13 := S.le e_13;have n_3__13 := hb_3.ne e_13;have n_5__13 := hb_5.ne e_13;have n_10__13 := hb_10.ne e_13;have n_12__13 := hb_12.ne e_13;have d_hA_b_13 := hA.neNew e_13;have d_hA2_b_13 := hA2.neNew e_13;have S := S.trans s_13;have hb_3 := hb_3.sub s_13;have hb_5 := hb_5.sub s_13;have hA := hA.sub s_13;have hb_10 := hb_10.sub s_13;have hA2 := hA2.sub s_13;have hb_12 := hb_12.sub s_13;refine RL.alloc ze38 rfl rfl (fun b_14 w_14 e_14 z_14 hb_14 s_14 => ?_);have ge_14 := S.le e_14;have n_3__14 := hb_3.ne e_14;have n_5__14 := hb_5.ne e_14;have n_10__14 := hb_10.ne e_14;have n_12__14 := hb_12.ne e_14;have n_13__14 := hb_13.ne e_14;have d_hA_b_14 := hA.neNew e_14;have d_hA2_b_14 := hA2.neNew e_14;have S := S.trans s_14;have hb_3 := hb_3.sub s_14;have hb_5 := hb_5.sub s_14;have hA := hA.sub s_14;have hb_10 := hb_10.sub s_14;have hA2 := hA2.sub s_14;have hb_12 := hb_12.sub s_14;have hb_13 := hb_13.sub s_14;refine RL.stS sh26 rfl rfl rfl hb_12 (fun w26 z26 hb_12 a26 => ?_);have S := S.upd a26 ge_12;have hb_3 := hb_3.upd a26 n_3__12;have hb_5 := hb_5.upd a26 n_5__12;have hA := hA.updD a26 d_hA_b_12;have hb_10 := hb_10.upd a26 n_10__12;have hA2 := hA2.updD a26 d_hA2_b_12;have hb_13 := hb_13.upd a26 n_12__13.symm;have hb_14 := hb_14.upd a26 n_12__14.symm
     have hb_12 : Has w26 b_12 (wvA na2 fa2 nc2 fc2 A2) _ := hb_12.now (by kernel_rfl)
     refine RL.stS sh33 rfl rfl rfl hb_13 (fun w27 z27 hb_13 a27 => ?_);have S := S.upd a27 ge_13;have hb_3 := hb_3.upd a27 n_3__13;have hb_5 := hb_5.upd a27 n_5__13;have hA := hA.updD a27 d_hA_b_13;have hb_10 := hb_10.upd a27 n_10__13;have hA2 := hA2.updD a27 d_hA2_b_13;have hb_12 := hb_12.upd a27 n_12__13;have hb_14 := hb_14.upd a27 n_13__14.symm
     have hb_13 : Has w27 b_13 (R2.cells) _ := hb_13.now (by kernel_rfl)
     refine RL.stS sh38 rfl rfl rfl hb_14 (fun w28 z28 hb_14 a28 => ?_);have S := S.upd a28 ge_14;have hb_3 := hb_3.upd a28 n_3__14;have hb_5 := hb_5.upd a28 n_5__14;have hA := hA.updD a28 d_hA_b_14;have hb_10 := hb_10.upd a28 n_10__14;have hA2 := hA2.updD a28 d_hA2_b_14;have hb_12 := hb_12.upd a28 n_12__14;have hb_13 := hb_13.upd a28 n_13__14
     have hb_14 : Has w28 b_14 (y1.cells) _ := hb_14.now (by kernel_rfl)
     refine RL.asS rfl ?_;refine RL.nil (RC.back (RC.seq (RC.seq (RC.region rfl ?_))));refine RL.mvS rfl ?_;refine RL.eS (.as (v' := .bool false) (.bin rfl rfl rfl) (congrArg Value.bool (decide_eq_false (fun h => h rfl)))) ?_;refine RL.mvS rfl ?_;refine RL.mvS rfl ?_;refine RL.eS (.as (v' := .bool false) (.bin rfl rfl rfl) (congrArg Value.bool (decide_eq_false (fun h => h rfl)))) ?_;refine RL.eS (.pick_f rfl rfl) ?_;refine RL.nil (RC.back ?_);refine RC.cond_f rfl ?_;refine RC.skip (RC.back (RC.seq (RC.seq (RC.region rfl ?_))));refine RL.eS (.field0 fo38_0 rfl) ?_;refine RL.eS (.load1 sh27 rfl (hb_10.cell rfl)) ?_;refine RL.eS (.bin rfl rfl rfl) ?_;refine RL.mvS rfl ?_;refine RL.split 90 rfl (fun h29 => ?_) (fun h29 => ?_)
     ·
      have q90 := h29
      refine RL.offs 3 rfl ?_;refine RL.eS (.pick_t rfl rfl) ?_;refine RL.mvS rfl ?_;refine RL.offs 8 rfl ?_;refine RL.eS (.pick_t rfl rfl) ?_;refine RL.nil (RC.back ?_);refine RC.cond_t rfl ?_;refine RC.seq (RC.region rfl ?_);refine RL.call rfl ok13 (c_alive w28) rfl rfl ?_;rintro _ w30 ⟨rfl, s31⟩;have S := S.trans s31;have hb_3 := hb_3.sub s31;have hb_5 := hb_5.sub s31;have hA := hA.sub s31;have hb_10 := hb_10.sub s31;have hA2 := hA2.sub s31;have hb_12 := hb_12.sub s31;have hb_13 := hb_13.sub s31;have hb_14 := hb_14.sub s31;refine RL.asS rfl ?_;refine RL.nil (RC.back ?_);refine RC.d1 2 rfl rfl rfl ?_
      exact ⟨rfl, S⟩
     ·
      have q90 : ¬ x1.e = 2 := h29
      refine RL.eS (.field0 fo38_0 rfl) ?_;refine RL.eS (.load1 sh27 rfl (hb_14.cell rfl)) ?_;refine RL.eS (.bin rfl rfl rfl) ?_;refine RL.eS (.pick_f rfl rfl) ?_;refine RL.mvS rfl ?_;refine RL.split 95 rfl (fun h32 => ?_) (fun h32 => ?_)
      ·
       have q95 := h32
       refine RL.offs 8 rfl ?_;refine RL.eS (.pick_t rfl rfl) ?_;refine RL.nil (RC.back ?_);refine RC.cond_t rfl ?_;refine RC.seq (RC.region rfl ?_);refine RL.call rfl ok13 (c_alive w28) rfl rfl ?_;rintro _ w33 ⟨rfl, s34⟩;have S := S.trans s34;have hb_3 := hb_3.sub s34;have hb_5 := hb_5.sub s34;have hA := hA.sub s34;have hb_10 := hb_10.sub s34;have hA2 := hA2.sub s34;have hb_12 := hb_12.sub s34;have hb_13 := hb_13.sub s34;have hb_14 := hb_14.sub s34;refine RL.asS rfl ?_;refine RL.nil (RC.back ?_);refine RC.d1 2 rfl rfl rfl ?_
       exact ⟨rfl, S⟩
      ·
       have q95 : ¬ y1.e = 2 := h32
       have hstep := step_end2 (o := opB o 2) (o1 := opB o 1) hP (by omega) rfl ⟨rfl, rfl, rfl⟩ hkey hu2 hPM (hmid.resolve_left q90) hd2
       rw [← eA2, ← eR2] at hstep
       refine RL.eS (.loadR (x1.cells) sh38 rfl hb_10.row rfl) ?_;refine RL.eS (.loadR (y1.cells) sh38 rfl hb_14.row rfl) ?_;refine RL.eS (.neS (xs := x1.cells) (ys := y1.cells) fk38 eg38 sh38 rfl rfl rfl rfl rfl) ?_;refine RL.mvS rfl ?_;refine RL.splitB 99 rfl (fun h35 => ?_) (fun h35 => ?_)
       ·
        have q99 : ¬ x1 = y1 := (by have h2 := h35; rw [eqL_rs] at h2; simpa using h2)
        refine RL.eS (.field0 fo38_0 rfl) ?_;refine RL.eS (.load1 sh27 rfl (hb_14.cell rfl)) ?_;refine RL.eS (.bin rfl rfl rfl) ?_;refine RL.eS (.pick_t rfl rfl) ?_;refine RL.eS (.pick_f rfl rfl) ?_;refine RL.nil (RC.back ?_);refine RC.cond_dec rfl (fun h36 => ?_) (fun h36 => ?_)
        ·
         refine RC.seq (RC.region rfl ?_);refine RL.call rfl ok13 (c_alive w28) rfl rfl ?_;rintro _ w37 ⟨rfl, s38⟩;have S := S.trans s38;have hb_3 := hb_3.sub s38;have hb_5 := hb_5.sub s38;have hA := hA.sub s38;have hb_10 := hb_10.sub s38;have hA2 := hA2.sub s38;have hb_12 := hb_12.sub s38;have hb_13 := hb_13.sub s38;have hb_14 := hb_14.sub s38;refine RL.asS rfl ?_;refine RL.nil (RC.back ?_);refine RC.d1 2 rfl rfl rfl ?_
         exact ⟨rfl, S⟩
        ·
         exact (hstep.elim q95 (fun h => h.elim (fun h => h36 h.2) (fun h => q99 h.1))).elim
       ·
        have q99 : x1 = y1 := (by have h2 := h35; rw [eqL_rs] at h2; simpa using h2)
        obtain ⟨T2, hP2⟩ := hstep.elim (fun h => absurd h q95) (fun h => h.elim (fun h => absurd q99 h.1) (fun h => h.2))
        refine RL.offs 3 rfl ?_;refine RL.eS (.pick_f rfl rfl) ?_;refine RL.eS (.pick_f rfl rfl) ?_;refine RL.nil (RC.back ?_);refine RC.cond_f rfl ?_;refine RC.skip (RC.back (RC.seq ?_));refine RC.drawD (fun k => k = b_3 ∨ k = b_5) [2, 3] w28.heap.size 4 rfl rfl mxo (fun w39 s40 => ?_)
        have hNN : ∀ k, ((k = b_3 ∨ k = b_5) ∨ w28.heap.size ≤ k) → w.heap.size ≤ k := fun k e => e.elim (fun e => e.elim (fun e => e ▸ ge_3) (fun e => e ▸ ge_5)) (fun e => Nat.le_trans S.size e)
        have hN0 : ∀ k, w28.heap.size ≤ k → w.heap.size ≤ k := fun k e => Nat.le_trans S.size e
        have ltD_b_12 := hb_12.lt;have ltD_b_13 := hb_13.lt;have S := S.trans s40;have hb_3 := hb_3.sub s40;have hb_5 := hb_5.sub s40;have hA := hA.sub s40;have hb_10 := hb_10.sub s40;have hA2 := hA2.sub s40;have hb_12 := hb_12.sub s40;have hb_13 := hb_13.sub s40;have hb_14 := hb_14.sub s40;refine RD.tS 0 rfl (fun w' s' => .loadR (wvA na2 fa2 nc2 fc2 A2) sh26 rfl (hb_12.step s' (fun e => e.elim (fun e => e.elim (fun e => n_3__12.symm e) (fun e => n_5__12.symm e)) (fun e => Nat.not_le.2 ltD_b_12 e))).row rfl) ?_;refine RD.tS 1 rfl (fun w' s' => .loadR (R2.cells) sh33 rfl (hb_13.step s' (fun e => e.elim (fun e => e.elim (fun e => n_3__13.symm e) (fun e => n_5__13.symm e)) (fun e => Nat.not_le.2 ltD_b_13 e))).row rfl) ?_;refine RD.oneS 2 rfl ?_;refine RL.stS sh26 rfl rfl rfl hb_3 (fun w41 z41 hb_3 a41 => ?_);have S := S.upd a41 ge_3;have hb_5 := hb_5.upd a41 n_3__5.symm;have hA := hA.updD a41 dA3;have hb_10 := hb_10.upd a41 n_3__10.symm;have hA2 := hA2.updD a41 d_hA2_b_3;have hb_14 := hb_14.upd a41 n_3__14.symm
        have hb_3 : Has w41 b_3 (wvA na2 fa2 nc2 fc2 A2) _ := hb_3.now (by kernel_rfl)
        refine RD.backW rfl (a41.mono fun k _ e => e ▸ (.inl (.inl rfl))) ?_;refine RD.oneS 3 rfl ?_;refine RL.stS sh33 rfl rfl rfl hb_5 (fun w42 z42 hb_5 a42 => ?_);have S := S.upd a42 ge_5;have hb_3 := hb_3.upd a42 n_3__5;have hA := hA.updD a42 dA5;have hb_10 := hb_10.upd a42 n_5__10.symm;have hA2 := hA2.updD a42 d_hA2_b_5;have hb_14 := hb_14.upd a42 n_5__14.symm
        have hb_5 : Has w42 b_5 (R2.cells) _ := hb_5.now (by kernel_rfl)
        refine RD.backW rfl (a42.mono fun k _ e => e ▸ (.inl (.inr (rfl)))) ?_;refine RD.done (by kernel_rfl) (RC.back ?_);refine RC.seq (RC.region rfl ?_);refine RL.eS (.loadR (x1.cells) sh38 rfl hb_10.row rfl) ?_;refine RL.eS (.loadR (y1.cells) sh38 rfl hb_14.row rfl) ?_;refine RL.eS (.neS (xs := x1.cells) (ys := y1.cells) fk38 eg38 sh38 rfl rfl rfl rfl rfl) ?_;refine RL.nil (RC.back ?_);refine RC.cond rfl (fun h43 => ?_) (fun h43 => ?_)
        ·
         exact absurd h43 (by rw [q99, eqL_rs]; simp)
        ·
         refine RC.skip (RC.back (RC.region rfl ?_));refine RL.eS (.as (.bin rfl rfl rfl) (wi64 (y := ((i + 1 : Nat) : Int)) (by show (i : Int) + 1 = _; omega) (by omega))) ?_;refine RL.mvS rfl ?_
         exact RL.nil (fun a ka => ⟨⟨i + 1, A2, R2, L1, T2, na2, fa2, nc2, fc2, M2⟩, ⟨⟨by show i + 1 ≤ l.length; omega, by show i + 1 ≤ 10; omega, hn2, hf2⟩, hP2, hb_3, hb_5, hA2, d_hA2_b_3, d_hA2_b_5, S⟩, by show l.length - (i + 1) < l.length - i; omega, ka.keep (keep_of (by repeat (first | exact trivial | refine And.intro rfl ?_)))⟩)
  ·
   exact RC.exit rfl (fun a ka => ⟨⟨i, A, R, L, T, na, fa, nc, fc, M⟩, ⟨⟨hi10, hnc, hfc⟩, hP, hb_3, hb_5, hA, S⟩, ka.keep (keep_of (by repeat (first | exact trivial | refine And.intro rfl ?_)))⟩)
 obtain ⟨i, A, R, L, T, na, fa, nc, fc, M⟩ := z
 obtain ⟨⟨hi10, hnc, hfc⟩, hP, hb_3, hb_5, hA, S⟩ := hJ
 simp only [] at hi10 hnc hfc hP hb_3 hb_5 hA
 refine RC.seq (RC.region rfl ?_);refine RL.eS (.loadR (wvA na fa nc fc A) sh26 rfl hb_3.row rfl) ?_;refine RL.eS (.loadR (R.cells) sh33 rfl hb_5.row rfl) ?_
 obtain ⟨Sx, hSp, hSs, hCx⟩ := hP.isC (by omega)
 have hLS : L = Sx := srt_perm hP.map.srt hSs (hSp.trans hP.perm).symm
 have hrl : (rowH A R.t).length = L.length := ((rowH_perm hP.tab).trans hP.perm).length_eq
 have hPl := hP.len
 refine RL.call rfl ok14 (c_hold0 A na fa nc fc hnc hfc R hP.u hP.h0 ⟨L, Sx, [], []⟩ hCx w4 hA.now) rfl rfl ?_;rintro _ w44 ⟨s45, p, Mm, rfl, hms, upm, hMo⟩;have S := S.trans s45;have hb_3 := hb_3.sub s45;have hb_5 := hb_5.sub s45;have hA := hA.sub s45
 obtain ⟨Wm, Sm, hMo⟩ : ∃ W, Sub W w44 ∧ MoR W p ⟨L, Sx, [], []⟩ := ⟨_, Sub.refl _, hMo.now⟩
 refine RL.mvS rfl ?_;refine RL.eS (.extract rfl rfl) ?_;refine RL.eS (.as (v' := .int .i64 0) (.extract rfl rfl) (by rfl)) ?_;refine RL.alloc ze45 rfl rfl (fun b_16 w_16 e_16 z_16 hb_16 s_16 => ?_);have ge_16 := S.le e_16;have n_3__16 := hb_3.ne e_16;have n_5__16 := hb_5.ne e_16;have d_hA_b_16 := hA.neNew e_16;have S := S.trans s_16;have hb_3 := hb_3.sub s_16;have hb_5 := hb_5.sub s_16;have hA := hA.sub s_16
 have geSm_16 := Sm.le e_16
 have Sm := Sm.trans s_16;refine RL.stS sh45 rfl rfl rfl hb_16 (fun w46 z46 hb_16 a46 => ?_);have S := S.upd a46 ge_16;have hb_3 := hb_3.upd a46 n_3__16;have hb_5 := hb_5.upd a46 n_5__16;have hA := hA.updD a46 d_hA_b_16;have Sm := Sm.upd a46 geSm_16
 have hb_16 : Has w46 b_16 (moC p ⟨L, Sx, [], []⟩) _ := hb_16.now (by kernel_rfl)
 refine RL.asS rfl ?_;refine RL.nil (RC.back (RC.seq (RC.region rfl ?_)));refine RL.eS (.loadR (wvA na fa nc fc A) sh26 rfl hb_3.row rfl) ?_;refine RL.eS (.field0 fo33_1 rfl) ?_;refine RL.eS (.load1 sh31 rfl (hb_5.cell rfl)) ?_;refine RL.call rfl ok15 (c_wAll A na fa nc fc hnc hfc R.t hP.u.2.1 w46 hA.now) rfl rfl ?_;rintro _ w47 ⟨s48, a2, c2, rows, e2, rfl, hsl, _, hx2⟩
 obtain ⟨rfl, rfl⟩ := hx2 (tab_isTab hP (by omega))
 have S := S.trans s48;have hb_3 := hb_3.sub s48;have hb_5 := hb_5.sub s48;have hA := hA.sub s48;have Sm := Sm.trans s48;have hb_16 := hb_16.sub s48
 obtain ⟨Wr, Sr, hsl⟩ : ∃ W, Sub W w47 ∧ Sl W a2 2 ((rowH A R.t).map It.cells) := ⟨_, Sub.refl _, hsl⟩
 refine RL.mvS rfl ?_;refine RL.eS (.as (v' := .slice a2 (rowH A R.t).length c2) (.extract rfl rfl) (by rfl)) ?_;refine RL.eS (.as (v' := .int .i64 0) (.extract rfl rfl) (by rfl)) ?_;refine RL.asS rfl ?_;refine RL.asS rfl ?_;refine RL.nil (RC.back (RC.seq (RC.seq (RC.region rfl ?_))));refine RL.mvS rfl ?_;refine RL.eS (.as (v' := .bool false) (.bin rfl rfl rfl) (congrArg Value.bool (decide_eq_false (fun h => h rfl)))) ?_;refine RL.mvS rfl ?_;refine RL.mvS rfl ?_;refine RL.eS (.as (v' := .bool false) (.bin rfl rfl rfl) (congrArg Value.bool (decide_eq_false (fun h => h rfl)))) ?_;refine RL.eS (.pick_f rfl rfl) ?_;refine RL.mvS rfl ?_;refine RL.mvS rfl ?_;refine RL.eS (.as (v' := .bool false) (.bin rfl rfl rfl) (congrArg Value.bool (decide_eq_false (fun h => h rfl)))) ?_;refine RL.eS (.pick_f rfl rfl) ?_;refine RL.mvS rfl ?_;refine RL.mvS rfl ?_;refine RL.eS (.len sl42 rfl) ?_;refine RL.eS (.field0 fo45_0 rfl) ?_;refine RL.eS (.load1 sh42 rfl (hb_16.cell rfl)) ?_;refine RL.eS (.len sl42 rfl) ?_;refine RL.eS (.as (v' := .bool false) (.bin rfl rfl rfl) (congrArg Value.bool (decide_eq_false (fun h => h (by show ((rowH A R.t).length : Int) = (L.length : Int); rw [hrl]))))) ?_;refine RL.eS (.pick_f rfl rfl) ?_;refine RL.mvS rfl ?_;refine RL.call rfl ok13 (c_alive w47) rfl rfl ?_;rintro _ w49 ⟨rfl, s50⟩;have S := S.trans s50;have hb_3 := hb_3.sub s50;have hb_5 := hb_5.sub s50;have hA := hA.sub s50;have Sm := Sm.trans s50;have hb_16 := hb_16.sub s50;have Sr := Sr.trans s50;refine RL.eS (.not rfl) ?_;refine RL.eS (.pick_f rfl rfl) ?_;refine RL.nil (RC.back ?_);refine RC.cond_f rfl ?_;refine RC.skip (RC.back (RC.seq (RC.seq (RC.region rfl ?_))));refine RL.mvS rfl ?_;refine RL.eS (.len sl42 rfl) ?_;refine RL.mvS rfl ?_;refine RL.nil (RC.back (RC.block ?_));refine RC.loop (α := Nat) (fun j => [(3, .pointer (some ⟨b_3, 0, none⟩)), (5, .pointer (some ⟨b_5, 0, none⟩)), (16, .pointer (some ⟨b_16, 0, none⟩)), (147, .slice a2 (rowH A R.t).length c2), (148, .int .i64 ((rowH A R.t).length : Int)), (149, .int .i64 (j : Int))]) (fun j w51 => j ≤ (rowH A R.t).length ∧ Has w51 b_3 (wvA na fa nc fc A) 26 ∧ Has w51 b_5 R.cells 33 ∧ Has w51 b_16 (moC p ⟨L, Sx, [], []⟩) 45 ∧ Ft M (fun u => ArR u na fa A) w51 ∧ Sub Wr w51 ∧ Sub Wm w51 ∧ Sub w w51) (fun j => (rowH A R.t).length - j) 0 (keep_of (by repeat (first | exact trivial | refine And.intro rfl ?_))) (⟨Nat.zero_le _, hb_3, hb_5, hb_16, hA, Sr, Sm, S⟩) (fun j w51 hJ => ?_)
 obtain ⟨hj, hb_3, hb_5, hb_16, hA, Sr, Sm, S⟩ := hJ
 refine RC.seq (RC.region rfl ?_);refine RL.eS (.bin rfl rfl rfl) ?_;refine RL.nil (RC.back (RC.seq ?_));refine RC.cond_dec rfl (fun h52 => ?_) (fun h52 => ?_)
 ·
  obtain ⟨y, hy⟩ := getSome (l := rowH A R.t) (i := j) (by omega)
  have hyL : y ∈ L := ((rowH_perm hP.tab).trans hP.perm).mem_iff.1 (List.mem_of_getElem? hy)
  refine RC.skip (RC.back (RC.seq (RC.block (RC.seq (RC.region rfl ?_)))));refine RL.eS (.indexS sl42 rfl rfl (by omega) (hsl.is (i := 0) (by simp only [List.length_map, List.length_cons, List.length_nil]; omega))) ?_;refine RL.eS (.loadR (y.cells) sh51 rfl ((hsl.sub Sr).rowAt (enc := It.cells) (i := j) hy) rfl) ?_;refine RL.alloc ze51 rfl rfl (fun b_21 w_21 e_21 z_21 hb_21 s_21 => ?_);have ge_21 := S.le e_21;have n_3__21 := hb_3.ne e_21;have n_5__21 := hb_5.ne e_21;have n_16__21 := hb_16.ne e_21;have d_hA_b_21 := hA.neNew e_21;have S := S.trans s_21
  have geSr_21 := Sr.le e_21
  have Sr := Sr.trans s_21
  have geSm_21 := Sm.le e_21
  have Sm := Sm.trans s_21;have hb_3 := hb_3.sub s_21;have hb_5 := hb_5.sub s_21;have hb_16 := hb_16.sub s_21;have hA := hA.sub s_21;refine RL.stS sh51 rfl rfl rfl hb_21 (fun w53 z53 hb_21 a53 => ?_);have S := S.upd a53 ge_21;have Sr := Sr.upd a53 geSr_21;have Sm := Sm.upd a53 geSm_21;have hb_3 := hb_3.upd a53 n_3__21;have hb_5 := hb_5.upd a53 n_5__21;have hb_16 := hb_16.upd a53 n_16__21;have hA := hA.updD a53 d_hA_b_21
  have hb_21 : Has w53 b_21 (y.cells) _ := hb_21.now (by kernel_rfl)
  refine RL.nil (RC.back (RC.seq (RC.region rfl ?_)));refine RL.eS (.loadR (wvA na fa nc fc A) sh26 rfl hb_3.row rfl) ?_;refine RL.eS (.field0 fo33_0 rfl) ?_;refine RL.eS (.load1 sh31 rfl (hb_5.cell rfl)) ?_;refine RL.eS (.field0 fo51_0 rfl) ?_;refine RL.eS (.load1 sh2 rfl (hb_21.cell rfl)) ?_;refine RL.call rfl ok16 (c_tget A na fa nc fc hnc hfc R.m y.k hP.u.1 M w53 hA) rfl rfl ?_;rintro _ w54 ⟨s55, v5, n5, rfl, _, hg⟩;have S := S.trans s55;have Sr := Sr.trans s55;have Sm := Sm.trans s55;have hb_3 := hb_3.sub s55;have hb_5 := hb_5.sub s55;have hb_16 := hb_16.sub s55;have hA := hA.sub s55;have hb_21 := hb_21.sub s55
  obtain ⟨rfl, rfl⟩ := pairs_get hP.map.srt hyL (hg L (map_isMap hP (by omega)) hP.map)
  refine RL.mvS rfl ?_;refine RL.eS (.as (v' := .int .i64 y.v) (.extract rfl rfl) (by rfl)) ?_;refine RL.eS (.as (v' := .int .i64 0) (.extract rfl rfl) (by rfl)) ?_;refine RL.asS rfl ?_;refine RL.asS rfl ?_;refine RL.nil (RC.back (RC.seq (RC.region rfl ?_)));refine RL.mvS rfl ?_;refine RL.eS (.as (v' := .bool false) (.bin rfl rfl rfl) (congrArg Value.bool (decide_eq_false (fun h => h rfl)))) ?_;refine RL.mvS rfl ?_;refine RL.mvS rfl ?_;refine RL.eS (.field0 fo51_1 rfl) ?_;refine RL.eS (.load1 sh2 rfl (hb_21.cell rfl)) ?_;refine RL.eS (.as (v' := .bool false) (.bin rfl rfl rfl) (congrArg Value.bool (decide_eq_false (fun h => h rfl)))) ?_;refine RL.eS (.pick_f rfl rfl) ?_;refine RL.nil (RC.back ?_);refine RC.cond_f rfl ?_;refine RC.skip (RC.back (RC.region rfl ?_));refine RL.eS (.as (.bin rfl rfl rfl) (wi64 (y := ((j + 1 : Nat) : Int)) (by omega) (by omega))) ?_;refine RL.mvS rfl ?_
  exact RL.nil (fun a ka => ⟨j + 1, ⟨by omega, hb_3, hb_5, hb_16, hA, Sr, Sm, S⟩, by omega, ka.keep (keep_of (by repeat (first | exact trivial | refine And.intro rfl ?_)))⟩)
 ·
  refine RC.exit rfl (RC.back (RC.seq (RC.region rfl ?_)));refine RL.eS (.field0 fo45_0 rfl) ?_;refine RL.eS (.load1 sh42 rfl (hb_16.cell rfl)) ?_;refine RL.eS (.field0 fo45_1 rfl) ?_;refine RL.eS (.load1 sh42 rfl (hb_16.cell rfl)) ?_;refine RL.call rfl ok17 (FC.yes (c_same L Sx p.a1 p.a2 p.c1 p.c2 _ _ rfl rfl w51 (hMo.sub Sm).h1 (hMo.sub Sm).h2 (by omega)) hLS) rfl rfl ?_;rintro _ w56 ⟨rfl, s57⟩;have S := S.trans s57;refine RL.asS rfl ?_;refine RL.nil (RC.back ?_);refine RC.d1 2 rfl rfl rfl ?_
  exact ⟨rfl, S⟩
end Go.Proofs.YtbjmllnddanniaaGreat
