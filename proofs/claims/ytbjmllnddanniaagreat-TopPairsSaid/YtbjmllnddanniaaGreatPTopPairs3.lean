/-
  What the law TopPairs leans on, part 3.
-/
import Derived.Test.YtbjmllnddanniaaGreatPTopPairs2
set_option linter.unusedVariables false
set_option linter.unusedSimpArgs false
namespace Go.Proofs.YtbjmllnddanniaaGreat
open Go Go.XL
abbrev UpN (w : World) (M : Nat → Prop) : Prop := Up (fun _ => False) w M
theorem UpN.one {w : World} {b : Nat} (h : w.heap.size ≤ b) : UpN w (· = b) := fun k hk => .inr (hk ▸ h)
theorem UpN.or {w : World} {M N : Nat → Prop} (h : UpN w M) (k : UpN w N) : UpN w (fun x => M x ∨ N x) := fun i hi => hi.elim (h i) (k i)
theorem UpN.low {w w' : World} {M : Nat → Prop} (h : UpN w' M) (hz : w.heap.size ≤ w'.heap.size) : UpN w M := h.le hz
def RcNew (n : Nat) (u : World) (x : RcP) : Prop := ∃ b1 b2, x = ⟨0, rt0, some ⟨b1, 0, none⟩, n, n, some ⟨b2, 0, none⟩, n, n⟩ ∧ Has u b1 (List.replicate n [i0]).flatten 3 ∧ Has u b2 (List.replicate n [i0, i0, i0]).flatten 38
theorem c_bBegin (n : Nat) (hn : 1 ≤ n ∧ n ≤ 8) (w : World) :
  FC Tryz.prog 242 [.int .i64 (n : Int)] w (fun v w' => Sub w w' ∧ ∃ x M, v = .tuple #[x.val, .int .i64 0] ∧ UpN w M ∧ Ft M (fun u => RcNew n u x) w') := by
 refine FC.intro Tryz.func242 rfl Tryz.ntmps242 rfl ?_
 have S := Sub.refl w
 refine RC.seq (RC.region rfl ?_);refine RL.alloc ze77 rfl rfl (fun b_2 w_2 e_2 z_2 hb_2 s_2 => ?_);have ge_2 := S.le e_2;have S := S.trans s_2;refine RL.asS rfl ?_;refine RL.nil (RC.back (RC.seq (RC.seq (RC.region rfl ?_))));refine RL.mvS rfl ?_;refine RL.eS (.bin rfl rfl rfl) ?_;refine RL.mvS rfl ?_;refine RL.split 6 rfl (fun h1 => ?_) (fun h1 => ?_)
 ·
  exact absurd h1 (by omega)
 ·
  refine RL.mvS rfl ?_;refine RL.eS (.bin rfl rfl rfl) ?_;refine RL.eS (.pick_f rfl rfl) ?_;refine RL.nil (RC.back ?_);refine RC.cond_dec rfl (fun h2 => ?_) (fun h2 => ?_)
  ·
   exact absurd h2 (by omega)
  ·
   refine RC.skip (RC.back (RC.seq ?_));refine RC.drawD (fun k => k = b_2) [5] w_2.heap.size 7 rfl rfl mxo (fun w3 s4 => ?_)
   have hNN : ∀ k, ((k = b_2) ∨ w_2.heap.size ≤ k) → w.heap.size ≤ k := fun k e => e.elim (fun e => e ▸ ge_2) (fun e => Nat.le_trans S.size e)
   have hN0 : ∀ k, w_2.heap.size ≤ k → w.heap.size ≤ k := fun k e => Nat.le_trans S.size e
   have szD := Nat.le_refl w_2.heap.size;have S := S.trans s4;have hb_2 := hb_2.sub s4;have szD := Nat.le_trans szD s4.size;refine RD.tS 0 rfl (fun w' s' => .move rfl) ?_;refine RD.tS 2 rfl (fun w' s' => .move rfl) ?_;refine RD.all [1, 3] (by kernel_rfl) rfl (RDs.cons rfl ?_ (RDs.cons rfl ?_ (RDs.nil)))
   ·
    refine RL.makeSlice sl24 ze3 rfl rfl rfl rfl (by omega) rfl rfl (fun b_12 w_12 e_12 z_12 hb_12 s_12 => ?_)
    have fr_b_12 : w_2.heap.size ≤ b_12 := by rw [e_12]; exact szD
    have ge_12 := S.le e_12;have n_2__12 := hb_2.ne e_12;have S := S.trans s_12;have hb_2 := hb_2.sub s_12;have szD := Nat.le_trans szD s_12.size
    have hb_12 : Has w_12 b_12 (List.replicate n [i0]).flatten 3 := (by have := hb_12; rw [Int.toNat_natCast] at this; exact this)
    refine RD.back s_12.agr ?_;refine RD.oneS 3 rfl ?_;refine RL.makeSlice sl75 ze38 rfl rfl rfl rfl (by omega) rfl rfl (fun b_14 w_14 e_14 z_14 hb_14 s_14 => ?_)
    have fr_b_14 : w_2.heap.size ≤ b_14 := by rw [e_14]; exact szD
    have ge_14 := S.le e_14;have n_2__14 := hb_2.ne e_14;have S := S.trans s_14;have hb_2 := hb_2.sub s_14;have szD := Nat.le_trans szD s_14.size;have hb_12 := hb_12.sub s_14
    have hb_14 : Has w_14 b_14 (List.replicate n [i0, i0, i0]).flatten 38 := (by have := hb_14; rw [Int.toNat_natCast] at this; exact this)
    refine RD.back s_14.agr ?_;refine RD.tS 4 rfl (fun w' s' => .buildS ze77 pl77 rfl rfl) ?_;refine RD.oneS 5 rfl ?_;refine RL.stS sh77 rfl rfl rfl hb_2 (fun w5 z5 hb_2 a5 => ?_);have S := S.upd a5 ge_2;have szD := Nat.le_trans szD a5.size;have hb_12 := hb_12.upd a5 n_2__12.symm;have hb_14 := hb_14.upd a5 n_2__14.symm
    have hb_2 : Has w5 b_2 ((⟨0, rt0, some ⟨b_12, 0, none⟩, n, n, some ⟨b_14, 0, none⟩, n, n⟩ : RcP).cells) _ := hb_2.now (by kernel_rfl)
    refine RD.backW rfl (a5.mono fun k _ e => e ▸ (.inl (rfl))) ?_;refine RD.tS 6 rfl (fun w' s' => .assign rfl) ?_;refine RD.done (by kernel_rfl) (RC.back ?_);refine RC.done (rs := [.cell 2 77, .tmp 3]) (vs := [_, _]) rfl rfl ⟨⟨_, rfl, .inr ⟨(⟨0, rt0, some ⟨b_12, 0, none⟩, n, n, some ⟨b_14, 0, none⟩, n, n⟩ : RcP).cells, sh77, hb_2.row, rfl⟩⟩, rfl, trivial⟩ ?_
    exact ⟨S, _, _, rfl, (UpN.one ge_12).or (UpN.one ge_14), (hb_12.ft.and hb_14.ft).imp fun u h => ⟨b_12, b_14, rfl, h.1, h.2⟩⟩
   ·
    refine RL.makeSlice sl75 ze38 rfl rfl rfl rfl (by omega) rfl rfl (fun b_14 w_14 e_14 z_14 hb_14 s_14 => ?_)
    have fr_b_14 : w_2.heap.size ≤ b_14 := by rw [e_14]; exact szD
    have ge_14 := S.le e_14;have n_2__14 := hb_2.ne e_14;have S := S.trans s_14;have hb_2 := hb_2.sub s_14;have szD := Nat.le_trans szD s_14.size
    have hb_14 : Has w_14 b_14 (List.replicate n [i0, i0, i0]).flatten 38 := (by have := hb_14; rw [Int.toNat_natCast] at this; exact this)
    refine RD.back s_14.agr ?_;refine RD.oneS 1 rfl ?_;refine RL.makeSlice sl24 ze3 rfl rfl rfl rfl (by omega) rfl rfl (fun b_12 w_12 e_12 z_12 hb_12 s_12 => ?_)
    have fr_b_12 : w_2.heap.size ≤ b_12 := by rw [e_12]; exact szD
    have ge_12 := S.le e_12;have n_2__12 := hb_2.ne e_12;have S := S.trans s_12;have hb_2 := hb_2.sub s_12;have hb_14 := hb_14.sub s_12
    have hb_12 : Has w_12 b_12 (List.replicate n [i0]).flatten 3 := (by have := hb_12; rw [Int.toNat_natCast] at this; exact this)
    refine RD.back s_12.agr ?_;refine RD.tS 4 rfl (fun w' s' => .buildS ze77 pl77 rfl rfl) ?_;refine RD.oneS 5 rfl ?_;refine RL.stS sh77 rfl rfl rfl hb_2 (fun w6 z6 hb_2 a6 => ?_);have S := S.upd a6 ge_2;have hb_14 := hb_14.upd a6 n_2__14.symm;have hb_12 := hb_12.upd a6 n_2__12.symm
    have hb_2 : Has w6 b_2 ((⟨0, rt0, some ⟨b_12, 0, none⟩, n, n, some ⟨b_14, 0, none⟩, n, n⟩ : RcP).cells) _ := hb_2.now (by kernel_rfl)
    refine RD.backW rfl (a6.mono fun k _ e => e ▸ (.inl (rfl))) ?_;refine RD.tS 6 rfl (fun w' s' => .assign rfl) ?_;refine RD.done (by kernel_rfl) (RC.back ?_);refine RC.done (rs := [.cell 2 77, .tmp 3]) (vs := [_, _]) rfl rfl ⟨⟨_, rfl, .inr ⟨(⟨0, rt0, some ⟨b_12, 0, none⟩, n, n, some ⟨b_14, 0, none⟩, n, n⟩ : RcP).cells, sh77, hb_2.row, rfl⟩⟩, rfl, trivial⟩ ?_
    exact ⟨S, _, _, rfl, (UpN.one ge_12).or (UpN.one ge_14), (hb_12.ft.and hb_14.ft).imp fun u h => ⟨b_12, b_14, rfl, h.1, h.2⟩⟩
def TbNew (n : Nat) (u : World) (t : TbP) (x : RcP) : Prop := ∃ b1 b2 b3, t = ⟨some ⟨b1, 0, none⟩, 1, 1, some ⟨b2, 0, none⟩, n, n, some ⟨b3, 0, none⟩, 8, 8⟩ ∧ Has u b1 x.cells 77 ∧ Has u b2 (List.replicate n [.int .i64 (-1)]).flatten 3 ∧ Has u b3 (List.replicate 8 [.int .i64 (-1)]).flatten 3 ∧ RcNew n u x
set_option maxHeartbeats 4000000 in
theorem c_tNew (n : Nat) (hn : 1 ≤ n ∧ n ≤ 8) (w : World) :
  FC Tryz.prog 189 [.int .i64 (n : Int)] w (fun v w' => Sub w w' ∧ ∃ t x M, v = .tuple #[.agg t.cells.toArray, .int .i64 0] ∧ UpN w M ∧ Ft M (fun u => TbNew n u t x) w') := by
 refine FC.intro Tryz.func189 rfl Tryz.ntmps189 rfl ?_
 have S := Sub.refl w
 refine RC.seq (RC.region rfl ?_);refine RL.alloc ze59 rfl rfl (fun b_2 w_2 e_2 z_2 hb_2 s_2 => ?_);have ge_2 := S.le e_2;have S := S.trans s_2;refine RL.asS rfl ?_;refine RL.nil (RC.back (RC.seq (RC.region rfl ?_)));refine RL.mvS rfl ?_;refine RL.call rfl ok242 (c_bBegin n hn w_2) rfl rfl ?_;rintro _ w1 ⟨s2, x, M, rfl, up, h1⟩;have d_h1_b_2 := upNe up (fun _ (h : False) => h.elim) hb_2.lt
 have up := up.low S.size
 have S := S.trans s2;have hb_2 := hb_2.sub s2;refine RL.mvS rfl ?_;refine RL.eS (.extract rfl rfl) ?_;refine RL.eS (.extract rfl rfl) ?_;refine RL.alloc ze77 rfl rfl (fun b_4 w_4 e_4 z_4 hb_4 s_4 => ?_);have ge_4 := S.le e_4;have n_2__4 := hb_2.ne e_4;have d_h1_b_4 := h1.neNew e_4;have S := S.trans s_4;have hb_2 := hb_2.sub s_4;have h1 := h1.sub s_4;refine RL.stS sh77 rfl rfl rfl hb_4 (fun w3 z3 hb_4 a3 => ?_);have S := S.upd a3 ge_4;have hb_2 := hb_2.upd a3 n_2__4;have h1 := h1.updD a3 d_h1_b_4
 have hb_4 : Has w3 b_4 (x.cells) _ := hb_4.now (by kernel_rfl)
 refine RL.asS rfl ?_;refine RL.nil (RC.back (RC.seq (RC.seq (RC.region rfl ?_))));refine RL.mvS rfl ?_;refine RL.eS (.bin rfl rfl rfl) ?_;refine RL.nil (RC.back ?_);refine RC.cond_dec rfl (fun h4 => ?_) (fun h4 => ?_)
 ·
  exact absurd rfl h4
 ·
  refine RC.skip (RC.back (RC.seq ?_));refine RC.drawD (fun k => k = b_2) [8] w3.heap.size 10 rfl rfl mxo (fun w5 s6 => ?_)
  have hNN : ∀ k, ((k = b_2) ∨ w3.heap.size ≤ k) → w.heap.size ≤ k := fun k e => e.elim (fun e => e ▸ ge_2) (fun e => Nat.le_trans S.size e)
  have hN0 : ∀ k, w3.heap.size ≤ k → w.heap.size ≤ k := fun k e => Nat.le_trans S.size e
  have ltD_b_4 := hb_4.lt;have szD := Nat.le_refl w3.heap.size;have S := S.trans s6;have hb_2 := hb_2.sub s6;have h1 := h1.sub s6;have hb_4 := hb_4.sub s6;have szD := Nat.le_trans szD s6.size;refine RD.tS 0 rfl (fun w' s' => .loadR (x.cells) sh77 rfl (hb_4.step s' (fun e => e.elim (fun e => n_2__4.symm e) (fun e => Nat.not_le.2 ltD_b_4 e))).row rfl) ?_;refine RD.tS 3 rfl (fun w' s' => .move rfl) ?_;refine RD.all [1, 2, 5] (by kernel_rfl) rfl (RDs.cons rfl ?_ (RDs.cons rfl ?_ (RDs.cons rfl ?_ (RDs.nil))))
  ·
   refine RL.buildSlice1 sl57 _ ze77 rfl rfl rfl rfl rfl rfl rfl (fun b_16 w_16 e_16 z_16 hb_16 s_16 => ?_)
   have fr_b_16 : w3.heap.size ≤ b_16 := by rw [e_16]; exact szD
   have ge_16 := S.le e_16;have n_2__16 := hb_2.ne e_16;have S := S.trans s_16;have hb_2 := hb_2.sub s_16;have h1 := h1.sub s_16;have szD := Nat.le_trans szD s_16.size;refine RD.back s_16.agr ?_;refine RD.all [2, 5] (by kernel_rfl) rfl (RDs.cons rfl ?_ (RDs.cons rfl ?_ (RDs.nil)))
   ·
    refine RL.buildSlice1 sl24 _ ze3 rfl rfl rfl rfl rfl rfl rfl (fun b_17 w_17 e_17 z_17 hb_17 s_17 => ?_)
    have fr_b_17 : w3.heap.size ≤ b_17 := by rw [e_17]; exact szD
    have n_2__17 := hb_2.ne e_17;have S := S.trans s_17;have hb_2 := hb_2.sub s_17;have h1 := h1.sub s_17;have szD := Nat.le_trans szD s_17.size;have hb_16 := hb_16.sub s_17;refine RD.back s_17.agr ?_;refine RD.all [4, 5] (by kernel_rfl) rfl (RDs.cons rfl ?_ (RDs.cons rfl ?_ (RDs.nil)))
    ·
     refine RL.call rfl ok243 (c_repI n (by omega) b_17 w_17 hb_17) rfl rfl ?_;rintro _ w7 ⟨s8, b3, rfl, ge3, h3⟩
     have n3_2 : b3 ≠ b_2 := (by have := hb_2.lt; omega)
     have ge3 := Nat.le_trans S.size ge3
     have S := S.trans s8;have hb_2 := hb_2.sub s8;have h1 := h1.sub s8;have szD := Nat.le_trans szD s8.size;have hb_16 := hb_16.sub s8;have hb_17 := hb_17.sub s8;refine RD.back s8.agr ?_;refine RD.oneS 5 rfl ?_;refine RL.buildSlice1 sl24 _ ze3 rfl rfl rfl rfl rfl rfl rfl (fun b_20 w_20 e_20 z_20 hb_20 s_20 => ?_)
     have fr_b_20 : w3.heap.size ≤ b_20 := by rw [e_20]; exact szD
     have n_2__20 := hb_2.ne e_20
     have n3__20 := h3.ne e_20
     have S := S.trans s_20;have hb_2 := hb_2.sub s_20;have h1 := h1.sub s_20;have szD := Nat.le_trans szD s_20.size;have hb_16 := hb_16.sub s_20;have hb_17 := hb_17.sub s_20;have h3 := h3.sub s_20;refine RD.back s_20.agr ?_;refine RD.oneS 6 rfl ?_;refine RL.call rfl ok243 (c_repI 8 (by omega) b_20 w_20 hb_20) rfl rfl ?_;rintro _ w9 ⟨s10, b4, rfl, ge4, h4⟩
     have n4_2 : b4 ≠ b_2 := (by have := hb_2.lt; omega)
     have ge4 := Nat.le_trans S.size ge4
     have S := S.trans s10;have hb_2 := hb_2.sub s10;have h1 := h1.sub s10;have szD := Nat.le_trans szD s10.size;have hb_16 := hb_16.sub s10;have hb_17 := hb_17.sub s10;have h3 := h3.sub s10;have hb_20 := hb_20.sub s10;refine RD.back s10.agr ?_;refine RD.tS 7 rfl (fun w' s' => .buildS ze59 pl59 rfl rfl) ?_;refine RD.oneS 8 rfl ?_;refine RL.stS sh59 rfl rfl rfl hb_2 (fun w11 z11 hb_2 a11 => ?_);have S := S.upd a11 ge_2;have h1 := h1.updD a11 d_h1_b_2;have szD := Nat.le_trans szD a11.size;have hb_16 := hb_16.upd a11 n_2__16.symm;have hb_17 := hb_17.upd a11 n_2__17.symm;have h3 := h3.upd a11 n3_2;have hb_20 := hb_20.upd a11 n_2__20.symm;have h4 := h4.upd a11 n4_2
     have hb_2 : Has w11 b_2 ((⟨some ⟨b_16, 0, none⟩, 1, 1, some ⟨b3, 0, none⟩, n, n, some ⟨b4, 0, none⟩, 8, 8⟩ : TbP).cells) _ := hb_2.now (by kernel_rfl)
     refine RD.backW rfl (a11.mono fun k _ e => e ▸ (.inl (rfl))) ?_;refine RD.tS 9 rfl (fun w' s' => .assign rfl) ?_;refine RD.done (by kernel_rfl) (RC.back ?_);refine RC.done (rs := [.cell 2 59, .tmp 3]) (vs := [_, _]) rfl rfl ⟨⟨_, rfl, .inr ⟨(⟨some ⟨b_16, 0, none⟩, 1, 1, some ⟨b3, 0, none⟩, n, n, some ⟨b4, 0, none⟩, 8, 8⟩ : TbP).cells, sh59, hb_2.row, rfl⟩⟩, rfl, trivial⟩ ?_
     exact ⟨S, _, x, _, rfl, (UpN.one ge_16).or ((UpN.one ge3).or ((UpN.one ge4).or up)), (hb_16.ft.and (h3.ft.and (h4.ft.and h1))).imp fun u h => ⟨b_16, b3, b4, rfl, h.1, h.2.1, h.2.2.1, h.2.2.2⟩⟩
    ·
     refine RL.buildSlice1 sl24 _ ze3 rfl rfl rfl rfl rfl rfl rfl (fun b_20 w_20 e_20 z_20 hb_20 s_20 => ?_)
     have fr_b_20 : w3.heap.size ≤ b_20 := by rw [e_20]; exact szD
     have n_2__20 := hb_2.ne e_20;have S := S.trans s_20;have hb_2 := hb_2.sub s_20;have h1 := h1.sub s_20;have szD := Nat.le_trans szD s_20.size;have hb_16 := hb_16.sub s_20;have hb_17 := hb_17.sub s_20;refine RD.back s_20.agr ?_;refine RD.oneS 4 rfl ?_;refine RL.call rfl ok243 (c_repI n (by omega) b_17 w_20 hb_17) rfl rfl ?_;rintro _ w12 ⟨s13, b3, rfl, ge3, h3⟩
     have n3_2 : b3 ≠ b_2 := (by have := hb_2.lt; omega)
     have ge3 := Nat.le_trans S.size ge3
     have S := S.trans s13;have hb_2 := hb_2.sub s13;have h1 := h1.sub s13;have szD := Nat.le_trans szD s13.size;have hb_16 := hb_16.sub s13;have hb_17 := hb_17.sub s13;have hb_20 := hb_20.sub s13;refine RD.back s13.agr ?_;refine RD.oneS 6 rfl ?_;refine RL.call rfl ok243 (c_repI 8 (by omega) b_20 w12 hb_20) rfl rfl ?_;rintro _ w14 ⟨s15, b4, rfl, ge4, h4⟩
     have n4_2 : b4 ≠ b_2 := (by have := hb_2.lt; omega)
     have ge4 := Nat.le_trans S.size ge4
     have S := S.trans s15;have hb_2 := hb_2.sub s15;have h1 := h1.sub s15;have szD := Nat.le_trans szD s15.size;have hb_16 := hb_16.sub s15;have hb_17 := hb_17.sub s15;have hb_20 := hb_20.sub s15;have h3 := h3.sub s15;refine RD.back s15.agr ?_;refine RD.tS 7 rfl (fun w' s' => .buildS ze59 pl59 rfl rfl) ?_;refine RD.oneS 8 rfl ?_;refine RL.stS sh59 rfl rfl rfl hb_2 (fun w16 z16 hb_2 a16 => ?_);have S := S.upd a16 ge_2;have h1 := h1.updD a16 d_h1_b_2;have szD := Nat.le_trans szD a16.size;have hb_16 := hb_16.upd a16 n_2__16.symm;have hb_17 := hb_17.upd a16 n_2__17.symm;have hb_20 := hb_20.upd a16 n_2__20.symm;have h3 := h3.upd a16 n3_2;have h4 := h4.upd a16 n4_2
     have hb_2 : Has w16 b_2 ((⟨some ⟨b_16, 0, none⟩, 1, 1, some ⟨b3, 0, none⟩, n, n, some ⟨b4, 0, none⟩, 8, 8⟩ : TbP).cells) _ := hb_2.now (by kernel_rfl)
     refine RD.backW rfl (a16.mono fun k _ e => e ▸ (.inl (rfl))) ?_;refine RD.tS 9 rfl (fun w' s' => .assign rfl) ?_;refine RD.done (by kernel_rfl) (RC.back ?_);refine RC.done (rs := [.cell 2 59, .tmp 3]) (vs := [_, _]) rfl rfl ⟨⟨_, rfl, .inr ⟨(⟨some ⟨b_16, 0, none⟩, 1, 1, some ⟨b3, 0, none⟩, n, n, some ⟨b4, 0, none⟩, 8, 8⟩ : TbP).cells, sh59, hb_2.row, rfl⟩⟩, rfl, trivial⟩ ?_
     exact ⟨S, _, x, _, rfl, (UpN.one ge_16).or ((UpN.one ge3).or ((UpN.one ge4).or up)), (hb_16.ft.and (h3.ft.and (h4.ft.and h1))).imp fun u h => ⟨b_16, b3, b4, rfl, h.1, h.2.1, h.2.2.1, h.2.2.2⟩⟩
   ·
    refine RL.buildSlice1 sl24 _ ze3 rfl rfl rfl rfl rfl rfl rfl (fun b_20 w_20 e_20 z_20 hb_20 s_20 => ?_)
    have fr_b_20 : w3.heap.size ≤ b_20 := by rw [e_20]; exact szD
    have n_2__20 := hb_2.ne e_20;have S := S.trans s_20;have hb_2 := hb_2.sub s_20;have h1 := h1.sub s_20;have szD := Nat.le_trans szD s_20.size;have hb_16 := hb_16.sub s_20;refine RD.back s_20.agr ?_;refine RD.oneS 2 rfl ?_;refine RL.buildSlice1 sl24 _ ze3 rfl rfl rfl rfl rfl rfl rfl (fun b_17 w_17 e_17 z_17 hb_17 s_17 => ?_)
    have fr_b_17 : w3.heap.size ≤ b_17 := by rw [e_17]; exact szD
    have n_2__17 := hb_2.ne e_17;have S := S.trans s_17;have hb_2 := hb_2.sub s_17;have h1 := h1.sub s_17;have szD := Nat.le_trans szD s_17.size;have hb_16 := hb_16.sub s_17;have hb_20 := hb_20.sub s_17;refine RD.back s_17.agr ?_;refine RD.oneS 4 rfl ?_;refine RL.call rfl ok243 (c_repI n (by omega) b_17 w_17 hb_17) rfl rfl ?_;rintro _ w17 ⟨s18, b3, rfl, ge3, h3⟩
    have n3_2 : b3 ≠ b_2 := (by have := hb_2.lt; omega)
    have ge3 := Nat.le_trans S.size ge3
    have S := S.trans s18;have hb_2 := hb_2.sub s18;have h1 := h1.sub s18;have szD := Nat.le_trans szD s18.size;have hb_16 := hb_16.sub s18;have hb_20 := hb_20.sub s18;have hb_17 := hb_17.sub s18;refine RD.back s18.agr ?_;refine RD.oneS 6 rfl ?_;refine RL.call rfl ok243 (c_repI 8 (by omega) b_20 w17 hb_20) rfl rfl ?_;rintro _ w19 ⟨s20, b4, rfl, ge4, h4⟩
    have n4_2 : b4 ≠ b_2 := (by have := hb_2.lt; omega)
    have ge4 := Nat.le_trans S.size ge4
    have S := S.trans s20;have hb_2 := hb_2.sub s20;have h1 := h1.sub s20;have szD := Nat.le_trans szD s20.size;have hb_16 := hb_16.sub s20;have hb_20 := hb_20.sub s20;have hb_17 := hb_17.sub s20;have h3 := h3.sub s20;refine RD.back s20.agr ?_;refine RD.tS 7 rfl (fun w' s' => .buildS ze59 pl59 rfl rfl) ?_;refine RD.oneS 8 rfl ?_;refine RL.stS sh59 rfl rfl rfl hb_2 (fun w21 z21 hb_2 a21 => ?_);have S := S.upd a21 ge_2;have h1 := h1.updD a21 d_h1_b_2;have szD := Nat.le_trans szD a21.size;have hb_16 := hb_16.upd a21 n_2__16.symm;have hb_20 := hb_20.upd a21 n_2__20.symm;have hb_17 := hb_17.upd a21 n_2__17.symm;have h3 := h3.upd a21 n3_2;have h4 := h4.upd a21 n4_2
    have hb_2 : Has w21 b_2 ((⟨some ⟨b_16, 0, none⟩, 1, 1, some ⟨b3, 0, none⟩, n, n, some ⟨b4, 0, none⟩, 8, 8⟩ : TbP).cells) _ := hb_2.now (by kernel_rfl)
    refine RD.backW rfl (a21.mono fun k _ e => e ▸ (.inl (rfl))) ?_;refine RD.tS 9 rfl (fun w' s' => .assign rfl) ?_;refine RD.done (by kernel_rfl) (RC.back ?_);refine RC.done (rs := [.cell 2 59, .tmp 3]) (vs := [_, _]) rfl rfl ⟨⟨_, rfl, .inr ⟨(⟨some ⟨b_16, 0, none⟩, 1, 1, some ⟨b3, 0, none⟩, n, n, some ⟨b4, 0, none⟩, 8, 8⟩ : TbP).cells, sh59, hb_2.row, rfl⟩⟩, rfl, trivial⟩ ?_
    exact ⟨S, _, x, _, rfl, (UpN.one ge_16).or ((UpN.one ge3).or ((UpN.one ge4).or up)), (hb_16.ft.and (h3.ft.and (h4.ft.and h1))).imp fun u h => ⟨b_16, b3, b4, rfl, h.1, h.2.1, h.2.2.1, h.2.2.2⟩⟩
  ·
   refine RL.buildSlice1 sl24 _ ze3 rfl rfl rfl rfl rfl rfl rfl (fun b_17 w_17 e_17 z_17 hb_17 s_17 => ?_)
   have fr_b_17 : w3.heap.size ≤ b_17 := by rw [e_17]; exact szD
   have n_2__17 := hb_2.ne e_17;have S := S.trans s_17;have hb_2 := hb_2.sub s_17;have h1 := h1.sub s_17;have szD := Nat.le_trans szD s_17.size;refine RD.back s_17.agr ?_;refine RD.all [1, 4, 5] (by kernel_rfl) rfl (RDs.cons rfl ?_ (RDs.cons rfl ?_ (RDs.cons rfl ?_ (RDs.nil))))
   ·
    refine RL.buildSlice1 sl57 _ ze77 rfl rfl rfl rfl rfl rfl rfl (fun b_16 w_16 e_16 z_16 hb_16 s_16 => ?_)
    have fr_b_16 : w3.heap.size ≤ b_16 := by rw [e_16]; exact szD
    have ge_16 := S.le e_16;have n_2__16 := hb_2.ne e_16;have S := S.trans s_16;have hb_2 := hb_2.sub s_16;have h1 := h1.sub s_16;have szD := Nat.le_trans szD s_16.size;have hb_17 := hb_17.sub s_16;refine RD.back s_16.agr ?_;refine RD.all [4, 5] (by kernel_rfl) rfl (RDs.cons rfl ?_ (RDs.cons rfl ?_ (RDs.nil)))
    ·
     refine RL.call rfl ok243 (c_repI n (by omega) b_17 w_16 hb_17) rfl rfl ?_;rintro _ w22 ⟨s23, b3, rfl, ge3, h3⟩
     have n3_2 : b3 ≠ b_2 := (by have := hb_2.lt; omega)
     have ge3 := Nat.le_trans S.size ge3
     have S := S.trans s23;have hb_2 := hb_2.sub s23;have h1 := h1.sub s23;have szD := Nat.le_trans szD s23.size;have hb_17 := hb_17.sub s23;have hb_16 := hb_16.sub s23;refine RD.back s23.agr ?_;refine RD.oneS 5 rfl ?_;refine RL.buildSlice1 sl24 _ ze3 rfl rfl rfl rfl rfl rfl rfl (fun b_20 w_20 e_20 z_20 hb_20 s_20 => ?_)
     have fr_b_20 : w3.heap.size ≤ b_20 := by rw [e_20]; exact szD
     have n_2__20 := hb_2.ne e_20
     have n3__20 := h3.ne e_20
     have S := S.trans s_20;have hb_2 := hb_2.sub s_20;have h1 := h1.sub s_20;have szD := Nat.le_trans szD s_20.size;have hb_17 := hb_17.sub s_20;have hb_16 := hb_16.sub s_20;have h3 := h3.sub s_20;refine RD.back s_20.agr ?_;refine RD.oneS 6 rfl ?_;refine RL.call rfl ok243 (c_repI 8 (by omega) b_20 w_20 hb_20) rfl rfl ?_;rintro _ w24 ⟨s25, b4, rfl, ge4, h4⟩
     have n4_2 : b4 ≠ b_2 := (by have := hb_2.lt; omega)
     have ge4 := Nat.le_trans S.size ge4
     have S := S.trans s25;have hb_2 := hb_2.sub s25;have h1 := h1.sub s25;have szD := Nat.le_trans szD s25.size;have hb_17 := hb_17.sub s25;have hb_16 := hb_16.sub s25;have h3 := h3.sub s25;have hb_20 := hb_20.sub s25;refine RD.back s25.agr ?_;refine RD.tS 7 rfl (fun w' s' => .buildS ze59 pl59 rfl rfl) ?_;refine RD.oneS 8 rfl ?_;refine RL.stS sh59 rfl rfl rfl hb_2 (fun w26 z26 hb_2 a26 => ?_);have S := S.upd a26 ge_2;have h1 := h1.updD a26 d_h1_b_2;have szD := Nat.le_trans szD a26.size;have hb_17 := hb_17.upd a26 n_2__17.symm;have hb_16 := hb_16.upd a26 n_2__16.symm;have h3 := h3.upd a26 n3_2;have hb_20 := hb_20.upd a26 n_2__20.symm;have h4 := h4.upd a26 n4_2
     have hb_2 : Has w26 b_2 ((⟨some ⟨b_16, 0, none⟩, 1, 1, some ⟨b3, 0, none⟩, n, n, some ⟨b4, 0, none⟩, 8, 8⟩ : TbP).cells) _ := hb_2.now (by kernel_rfl)
     refine RD.backW rfl (a26.mono fun k _ e => e ▸ (.inl (rfl))) ?_;refine RD.tS 9 rfl (fun w' s' => .assign rfl) ?_;refine RD.done (by kernel_rfl) (RC.back ?_);refine RC.done (rs := [.cell 2 59, .tmp 3]) (vs := [_, _]) rfl rfl ⟨⟨_, rfl, .inr ⟨(⟨some ⟨b_16, 0, none⟩, 1, 1, some ⟨b3, 0, none⟩, n, n, some ⟨b4, 0, none⟩, 8, 8⟩ : TbP).cells, sh59, hb_2.row, rfl⟩⟩, rfl, trivial⟩ ?_
     exact ⟨S, _, x, _, rfl, (UpN.one ge_16).or ((UpN.one ge3).or ((UpN.one ge4).or up)), (hb_16.ft.and (h3.ft.and (h4.ft.and h1))).imp fun u h => ⟨b_16, b3, b4, rfl, h.1, h.2.1, h.2.2.1, h.2.2.2⟩⟩
    ·
     refine RL.buildSlice1 sl24 _ ze3 rfl rfl rfl rfl rfl rfl rfl (fun b_20 w_20 e_20 z_20 hb_20 s_20 => ?_)
     have fr_b_20 : w3.heap.size ≤ b_20 := by rw [e_20]; exact szD
     have n_2__20 := hb_2.ne e_20;have S := S.trans s_20;have hb_2 := hb_2.sub s_20;have h1 := h1.sub s_20;have szD := Nat.le_trans szD s_20.size;have hb_17 := hb_17.sub s_20;have hb_16 := hb_16.sub s_20;refine RD.back s_20.agr ?_;refine RD.oneS 4 rfl ?_;refine RL.call rfl ok243 (c_repI n (by omega) b_17 w_20 hb_17) rfl rfl ?_;rintro _ w27 ⟨s28, b3, rfl, ge3, h3⟩
     have n3_2 : b3 ≠ b_2 := (by have := hb_2.lt; omega)
     have ge3 := Nat.le_trans S.size ge3
     have S := S.trans s28;have hb_2 := hb_2.sub s28;have h1 := h1.sub s28;have szD := Nat.le_trans szD s28.size;have hb_17 := hb_17.sub s28;have hb_16 := hb_16.sub s28;have hb_20 := hb_20.sub s28;refine RD.back s28.agr ?_;refine RD.oneS 6 rfl ?_;refine RL.call rfl ok243 (c_repI 8 (by omega) b_20 w27 hb_20) rfl rfl ?_;rintro _ w29 ⟨s30, b4, rfl, ge4, h4⟩
     have n4_2 : b4 ≠ b_2 := (by have := hb_2.lt; omega)
     have ge4 := Nat.le_trans S.size ge4
     have S := S.trans s30;have hb_2 := hb_2.sub s30;have h1 := h1.sub s30;have szD := Nat.le_trans szD s30.size;have hb_17 := hb_17.sub s30;have hb_16 := hb_16.sub s30;have hb_20 := hb_20.sub s30;have h3 := h3.sub s30;refine RD.back s30.agr ?_;refine RD.tS 7 rfl (fun w' s' => .buildS ze59 pl59 rfl rfl) ?_;refine RD.oneS 8 rfl ?_;refine RL.stS sh59 rfl rfl rfl hb_2 (fun w31 z31 hb_2 a31 => ?_);have S := S.upd a31 ge_2;have h1 := h1.updD a31 d_h1_b_2;have szD := Nat.le_trans szD a31.size;have hb_17 := hb_17.upd a31 n_2__17.symm;have hb_16 := hb_16.upd a31 n_2__16.symm;have hb_20 := hb_20.upd a31 n_2__20.symm;have h3 := h3.upd a31 n3_2;have h4 := h4.upd a31 n4_2
     have hb_2 : Has w31 b_2 ((⟨some ⟨b_16, 0, none⟩, 1, 1, some ⟨b3, 0, none⟩, n, n, some ⟨b4, 0, none⟩, 8, 8⟩ : TbP).cells) _ := hb_2.now (by kernel_rfl)
     refine RD.backW rfl (a31.mono fun k _ e => e ▸ (.inl (rfl))) ?_;refine RD.tS 9 rfl (fun w' s' => .assign rfl) ?_;refine RD.done (by kernel_rfl) (RC.back ?_);refine RC.done (rs := [.cell 2 59, .tmp 3]) (vs := [_, _]) rfl rfl ⟨⟨_, rfl, .inr ⟨(⟨some ⟨b_16, 0, none⟩, 1, 1, some ⟨b3, 0, none⟩, n, n, some ⟨b4, 0, none⟩, 8, 8⟩ : TbP).cells, sh59, hb_2.row, rfl⟩⟩, rfl, trivial⟩ ?_
     exact ⟨S, _, x, _, rfl, (UpN.one ge_16).or ((UpN.one ge3).or ((UpN.one ge4).or up)), (hb_16.ft.and (h3.ft.and (h4.ft.and h1))).imp fun u h => ⟨b_16, b3, b4, rfl, h.1, h.2.1, h.2.2.1, h.2.2.2⟩⟩
   ·
    refine RL.call rfl ok243 (c_repI n (by omega) b_17 w_17 hb_17) rfl rfl ?_;rintro _ w32 ⟨s33, b3, rfl, ge3, h3⟩
    have n3_2 : b3 ≠ b_2 := (by have := hb_2.lt; omega)
    have ge3 := Nat.le_trans S.size ge3
    have S := S.trans s33;have hb_2 := hb_2.sub s33;have h1 := h1.sub s33;have szD := Nat.le_trans szD s33.size;have hb_17 := hb_17.sub s33;refine RD.back s33.agr ?_;refine RD.all [1, 5] (by kernel_rfl) rfl (RDs.cons rfl ?_ (RDs.cons rfl ?_ (RDs.nil)))
    ·
     refine RL.buildSlice1 sl57 _ ze77 rfl rfl rfl rfl rfl rfl rfl (fun b_16 w_16 e_16 z_16 hb_16 s_16 => ?_)
     have fr_b_16 : w3.heap.size ≤ b_16 := by rw [e_16]; exact szD
     have ge_16 := S.le e_16;have n_2__16 := hb_2.ne e_16
     have n3__16 := h3.ne e_16
     have S := S.trans s_16;have hb_2 := hb_2.sub s_16;have h1 := h1.sub s_16;have szD := Nat.le_trans szD s_16.size;have hb_17 := hb_17.sub s_16;have h3 := h3.sub s_16;refine RD.back s_16.agr ?_;refine RD.oneS 5 rfl ?_;refine RL.buildSlice1 sl24 _ ze3 rfl rfl rfl rfl rfl rfl rfl (fun b_20 w_20 e_20 z_20 hb_20 s_20 => ?_)
     have fr_b_20 : w3.heap.size ≤ b_20 := by rw [e_20]; exact szD
     have n_2__20 := hb_2.ne e_20
     have n3__20 := h3.ne e_20
     have S := S.trans s_20;have hb_2 := hb_2.sub s_20;have h1 := h1.sub s_20;have szD := Nat.le_trans szD s_20.size;have hb_17 := hb_17.sub s_20;have h3 := h3.sub s_20;have hb_16 := hb_16.sub s_20;refine RD.back s_20.agr ?_;refine RD.oneS 6 rfl ?_;refine RL.call rfl ok243 (c_repI 8 (by omega) b_20 w_20 hb_20) rfl rfl ?_;rintro _ w34 ⟨s35, b4, rfl, ge4, h4⟩
     have n4_2 : b4 ≠ b_2 := (by have := hb_2.lt; omega)
     have ge4 := Nat.le_trans S.size ge4
     have S := S.trans s35;have hb_2 := hb_2.sub s35;have h1 := h1.sub s35;have szD := Nat.le_trans szD s35.size;have hb_17 := hb_17.sub s35;have h3 := h3.sub s35;have hb_16 := hb_16.sub s35;have hb_20 := hb_20.sub s35;refine RD.back s35.agr ?_;refine RD.tS 7 rfl (fun w' s' => .buildS ze59 pl59 rfl rfl) ?_;refine RD.oneS 8 rfl ?_;refine RL.stS sh59 rfl rfl rfl hb_2 (fun w36 z36 hb_2 a36 => ?_);have S := S.upd a36 ge_2;have h1 := h1.updD a36 d_h1_b_2;have szD := Nat.le_trans szD a36.size;have hb_17 := hb_17.upd a36 n_2__17.symm;have h3 := h3.upd a36 n3_2;have hb_16 := hb_16.upd a36 n_2__16.symm;have hb_20 := hb_20.upd a36 n_2__20.symm;have h4 := h4.upd a36 n4_2
     have hb_2 : Has w36 b_2 ((⟨some ⟨b_16, 0, none⟩, 1, 1, some ⟨b3, 0, none⟩, n, n, some ⟨b4, 0, none⟩, 8, 8⟩ : TbP).cells) _ := hb_2.now (by kernel_rfl)
     refine RD.backW rfl (a36.mono fun k _ e => e ▸ (.inl (rfl))) ?_;refine RD.tS 9 rfl (fun w' s' => .assign rfl) ?_;refine RD.done (by kernel_rfl) (RC.back ?_);refine RC.done (rs := [.cell 2 59, .tmp 3]) (vs := [_, _]) rfl rfl ⟨⟨_, rfl, .inr ⟨(⟨some ⟨b_16, 0, none⟩, 1, 1, some ⟨b3, 0, none⟩, n, n, some ⟨b4, 0, none⟩, 8, 8⟩ : TbP).cells, sh59, hb_2.row, rfl⟩⟩, rfl, trivial⟩ ?_
     exact ⟨S, _, x, _, rfl, (UpN.one ge_16).or ((UpN.one ge3).or ((UpN.one ge4).or up)), (hb_16.ft.and (h3.ft.and (h4.ft.and h1))).imp fun u h => ⟨b_16, b3, b4, rfl, h.1, h.2.1, h.2.2.1, h.2.2.2⟩⟩
    ·
     refine RL.buildSlice1 sl24 _ ze3 rfl rfl rfl rfl rfl rfl rfl (fun b_20 w_20 e_20 z_20 hb_20 s_20 => ?_)
     have fr_b_20 : w3.heap.size ≤ b_20 := by rw [e_20]; exact szD
     have n_2__20 := hb_2.ne e_20
     have n3__20 := h3.ne e_20
     have S := S.trans s_20;have hb_2 := hb_2.sub s_20;have h1 := h1.sub s_20;have szD := Nat.le_trans szD s_20.size;have hb_17 := hb_17.sub s_20;have h3 := h3.sub s_20;refine RD.back s_20.agr ?_;refine RD.all [1, 6] (by kernel_rfl) rfl (RDs.cons rfl ?_ (RDs.cons rfl ?_ (RDs.nil)))
     ·
      refine RL.buildSlice1 sl57 _ ze77 rfl rfl rfl rfl rfl rfl rfl (fun b_16 w_16 e_16 z_16 hb_16 s_16 => ?_)
      have fr_b_16 : w3.heap.size ≤ b_16 := by rw [e_16]; exact szD
      have ge_16 := S.le e_16;have n_2__16 := hb_2.ne e_16
      have n3__16 := h3.ne e_16
      have S := S.trans s_16;have hb_2 := hb_2.sub s_16;have h1 := h1.sub s_16;have szD := Nat.le_trans szD s_16.size;have hb_17 := hb_17.sub s_16;have h3 := h3.sub s_16;have hb_20 := hb_20.sub s_16;refine RD.back s_16.agr ?_;refine RD.oneS 6 rfl ?_;refine RL.call rfl ok243 (c_repI 8 (by omega) b_20 w_16 hb_20) rfl rfl ?_;rintro _ w37 ⟨s38, b4, rfl, ge4, h4⟩
      have n4_2 : b4 ≠ b_2 := (by have := hb_2.lt; omega)
      have ge4 := Nat.le_trans S.size ge4
      have S := S.trans s38;have hb_2 := hb_2.sub s38;have h1 := h1.sub s38;have szD := Nat.le_trans szD s38.size;have hb_17 := hb_17.sub s38;have h3 := h3.sub s38;have hb_20 := hb_20.sub s38;have hb_16 := hb_16.sub s38;refine RD.back s38.agr ?_;refine RD.tS 7 rfl (fun w' s' => .buildS ze59 pl59 rfl rfl) ?_;refine RD.oneS 8 rfl ?_;refine RL.stS sh59 rfl rfl rfl hb_2 (fun w39 z39 hb_2 a39 => ?_);have S := S.upd a39 ge_2;have h1 := h1.updD a39 d_h1_b_2;have szD := Nat.le_trans szD a39.size;have hb_17 := hb_17.upd a39 n_2__17.symm;have h3 := h3.upd a39 n3_2;have hb_20 := hb_20.upd a39 n_2__20.symm;have hb_16 := hb_16.upd a39 n_2__16.symm;have h4 := h4.upd a39 n4_2
      have hb_2 : Has w39 b_2 ((⟨some ⟨b_16, 0, none⟩, 1, 1, some ⟨b3, 0, none⟩, n, n, some ⟨b4, 0, none⟩, 8, 8⟩ : TbP).cells) _ := hb_2.now (by kernel_rfl)
      refine RD.backW rfl (a39.mono fun k _ e => e ▸ (.inl (rfl))) ?_;refine RD.tS 9 rfl (fun w' s' => .assign rfl) ?_;refine RD.done (by kernel_rfl) (RC.back ?_);refine RC.done (rs := [.cell 2 59, .tmp 3]) (vs := [_, _]) rfl rfl ⟨⟨_, rfl, .inr ⟨(⟨some ⟨b_16, 0, none⟩, 1, 1, some ⟨b3, 0, none⟩, n, n, some ⟨b4, 0, none⟩, 8, 8⟩ : TbP).cells, sh59, hb_2.row, rfl⟩⟩, rfl, trivial⟩ ?_
      exact ⟨S, _, x, _, rfl, (UpN.one ge_16).or ((UpN.one ge3).or ((UpN.one ge4).or up)), (hb_16.ft.and (h3.ft.and (h4.ft.and h1))).imp fun u h => ⟨b_16, b3, b4, rfl, h.1, h.2.1, h.2.2.1, h.2.2.2⟩⟩
     ·
      refine RL.call rfl ok243 (c_repI 8 (by omega) b_20 w_20 hb_20) rfl rfl ?_;rintro _ w40 ⟨s41, b4, rfl, ge4, h4⟩
      have n4_2 : b4 ≠ b_2 := (by have := hb_2.lt; omega)
      have ge4 := Nat.le_trans S.size ge4
      have S := S.trans s41;have hb_2 := hb_2.sub s41;have h1 := h1.sub s41;have szD := Nat.le_trans szD s41.size;have hb_17 := hb_17.sub s41;have h3 := h3.sub s41;have hb_20 := hb_20.sub s41;refine RD.back s41.agr ?_;refine RD.oneS 1 rfl ?_;refine RL.buildSlice1 sl57 _ ze77 rfl rfl rfl rfl rfl rfl rfl (fun b_16 w_16 e_16 z_16 hb_16 s_16 => ?_)
      have fr_b_16 : w3.heap.size ≤ b_16 := by rw [e_16]; exact szD
      have ge_16 := S.le e_16;have n_2__16 := hb_2.ne e_16
      have n3__16 := h3.ne e_16
      have n4__16 := h4.ne e_16
      have S := S.trans s_16;have hb_2 := hb_2.sub s_16;have h1 := h1.sub s_16;have szD := Nat.le_trans szD s_16.size;have hb_17 := hb_17.sub s_16;have h3 := h3.sub s_16;have hb_20 := hb_20.sub s_16;have h4 := h4.sub s_16;refine RD.back s_16.agr ?_;refine RD.tS 7 rfl (fun w' s' => .buildS ze59 pl59 rfl rfl) ?_;refine RD.oneS 8 rfl ?_;refine RL.stS sh59 rfl rfl rfl hb_2 (fun w42 z42 hb_2 a42 => ?_);have S := S.upd a42 ge_2;have h1 := h1.updD a42 d_h1_b_2;have szD := Nat.le_trans szD a42.size;have hb_17 := hb_17.upd a42 n_2__17.symm;have h3 := h3.upd a42 n3_2;have hb_20 := hb_20.upd a42 n_2__20.symm;have h4 := h4.upd a42 n4_2;have hb_16 := hb_16.upd a42 n_2__16.symm
      have hb_2 : Has w42 b_2 ((⟨some ⟨b_16, 0, none⟩, 1, 1, some ⟨b3, 0, none⟩, n, n, some ⟨b4, 0, none⟩, 8, 8⟩ : TbP).cells) _ := hb_2.now (by kernel_rfl)
      refine RD.backW rfl (a42.mono fun k _ e => e ▸ (.inl (rfl))) ?_;refine RD.tS 9 rfl (fun w' s' => .assign rfl) ?_;refine RD.done (by kernel_rfl) (RC.back ?_);refine RC.done (rs := [.cell 2 59, .tmp 3]) (vs := [_, _]) rfl rfl ⟨⟨_, rfl, .inr ⟨(⟨some ⟨b_16, 0, none⟩, 1, 1, some ⟨b3, 0, none⟩, n, n, some ⟨b4, 0, none⟩, 8, 8⟩ : TbP).cells, sh59, hb_2.row, rfl⟩⟩, rfl, trivial⟩ ?_
      exact ⟨S, _, x, _, rfl, (UpN.one ge_16).or ((UpN.one ge3).or ((UpN.one ge4).or up)), (hb_16.ft.and (h3.ft.and (h4.ft.and h1))).imp fun u h => ⟨b_16, b3, b4, rfl, h.1, h.2.1, h.2.2.1, h.2.2.2⟩⟩
   ·
    refine RL.buildSlice1 sl24 _ ze3 rfl rfl rfl rfl rfl rfl rfl (fun b_20 w_20 e_20 z_20 hb_20 s_20 => ?_)
    have fr_b_20 : w3.heap.size ≤ b_20 := by rw [e_20]; exact szD
    have n_2__20 := hb_2.ne e_20;have S := S.trans s_20;have hb_2 := hb_2.sub s_20;have h1 := h1.sub s_20;have szD := Nat.le_trans szD s_20.size;have hb_17 := hb_17.sub s_20;refine RD.back s_20.agr ?_;refine RD.all [1, 4] (by kernel_rfl) rfl (RDs.cons rfl ?_ (RDs.cons rfl ?_ (RDs.nil)))
    ·
     refine RL.buildSlice1 sl57 _ ze77 rfl rfl rfl rfl rfl rfl rfl (fun b_16 w_16 e_16 z_16 hb_16 s_16 => ?_)
     have fr_b_16 : w3.heap.size ≤ b_16 := by rw [e_16]; exact szD
     have ge_16 := S.le e_16;have n_2__16 := hb_2.ne e_16;have S := S.trans s_16;have hb_2 := hb_2.sub s_16;have h1 := h1.sub s_16;have szD := Nat.le_trans szD s_16.size;have hb_17 := hb_17.sub s_16;have hb_20 := hb_20.sub s_16;refine RD.back s_16.agr ?_;refine RD.oneS 4 rfl ?_;refine RL.call rfl ok243 (c_repI n (by omega) b_17 w_16 hb_17) rfl rfl ?_;rintro _ w43 ⟨s44, b3, rfl, ge3, h3⟩
     have n3_2 : b3 ≠ b_2 := (by have := hb_2.lt; omega)
     have ge3 := Nat.le_trans S.size ge3
     have S := S.trans s44;have hb_2 := hb_2.sub s44;have h1 := h1.sub s44;have szD := Nat.le_trans szD s44.size;have hb_17 := hb_17.sub s44;have hb_20 := hb_20.sub s44;have hb_16 := hb_16.sub s44;refine RD.back s44.agr ?_;refine RD.oneS 6 rfl ?_;refine RL.call rfl ok243 (c_repI 8 (by omega) b_20 w43 hb_20) rfl rfl ?_;rintro _ w45 ⟨s46, b4, rfl, ge4, h4⟩
     have n4_2 : b4 ≠ b_2 := (by have := hb_2.lt; omega)
     have ge4 := Nat.le_trans S.size ge4
     have S := S.trans s46;have hb_2 := hb_2.sub s46;have h1 := h1.sub s46;have szD := Nat.le_trans szD s46.size;have hb_17 := hb_17.sub s46;have hb_20 := hb_20.sub s46;have hb_16 := hb_16.sub s46;have h3 := h3.sub s46;refine RD.back s46.agr ?_;refine RD.tS 7 rfl (fun w' s' => .buildS ze59 pl59 rfl rfl) ?_;refine RD.oneS 8 rfl ?_;refine RL.stS sh59 rfl rfl rfl hb_2 (fun w47 z47 hb_2 a47 => ?_);have S := S.upd a47 ge_2;have h1 := h1.updD a47 d_h1_b_2;have szD := Nat.le_trans szD a47.size;have hb_17 := hb_17.upd a47 n_2__17.symm;have hb_20 := hb_20.upd a47 n_2__20.symm;have hb_16 := hb_16.upd a47 n_2__16.symm;have h3 := h3.upd a47 n3_2;have h4 := h4.upd a47 n4_2
     have hb_2 : Has w47 b_2 ((⟨some ⟨b_16, 0, none⟩, 1, 1, some ⟨b3, 0, none⟩, n, n, some ⟨b4, 0, none⟩, 8, 8⟩ : TbP).cells) _ := hb_2.now (by kernel_rfl)
     refine RD.backW rfl (a47.mono fun k _ e => e ▸ (.inl (rfl))) ?_;refine RD.tS 9 rfl (fun w' s' => .assign rfl) ?_;refine RD.done (by kernel_rfl) (RC.back ?_);refine RC.done (rs := [.cell 2 59, .tmp 3]) (vs := [_, _]) rfl rfl ⟨⟨_, rfl, .inr ⟨(⟨some ⟨b_16, 0, none⟩, 1, 1, some ⟨b3, 0, none⟩, n, n, some ⟨b4, 0, none⟩, 8, 8⟩ : TbP).cells, sh59, hb_2.row, rfl⟩⟩, rfl, trivial⟩ ?_
     exact ⟨S, _, x, _, rfl, (UpN.one ge_16).or ((UpN.one ge3).or ((UpN.one ge4).or up)), (hb_16.ft.and (h3.ft.and (h4.ft.and h1))).imp fun u h => ⟨b_16, b3, b4, rfl, h.1, h.2.1, h.2.2.1, h.2.2.2⟩⟩
    ·
     refine RL.call rfl ok243 (c_repI n (by omega) b_17 w_20 hb_17) rfl rfl ?_;rintro _ w48 ⟨s49, b3, rfl, ge3, h3⟩
     have n3_2 : b3 ≠ b_2 := (by have := hb_2.lt; omega)
     have ge3 := Nat.le_trans S.size ge3
     have S := S.trans s49;have hb_2 := hb_2.sub s49;have h1 := h1.sub s49;have szD := Nat.le_trans szD s49.size;have hb_17 := hb_17.sub s49;have hb_20 := hb_20.sub s49;refine RD.back s49.agr ?_;refine RD.all [1, 6] (by kernel_rfl) rfl (RDs.cons rfl ?_ (RDs.cons rfl ?_ (RDs.nil)))
     ·
      refine RL.buildSlice1 sl57 _ ze77 rfl rfl rfl rfl rfl rfl rfl (fun b_16 w_16 e_16 z_16 hb_16 s_16 => ?_)
      have fr_b_16 : w3.heap.size ≤ b_16 := by rw [e_16]; exact szD
      have ge_16 := S.le e_16;have n_2__16 := hb_2.ne e_16
      have n3__16 := h3.ne e_16
      have S := S.trans s_16;have hb_2 := hb_2.sub s_16;have h1 := h1.sub s_16;have szD := Nat.le_trans szD s_16.size;have hb_17 := hb_17.sub s_16;have hb_20 := hb_20.sub s_16;have h3 := h3.sub s_16;refine RD.back s_16.agr ?_;refine RD.oneS 6 rfl ?_;refine RL.call rfl ok243 (c_repI 8 (by omega) b_20 w_16 hb_20) rfl rfl ?_;rintro _ w50 ⟨s51, b4, rfl, ge4, h4⟩
      have n4_2 : b4 ≠ b_2 := (by have := hb_2.lt; omega)
      have ge4 := Nat.le_trans S.size ge4
      have S := S.trans s51;have hb_2 := hb_2.sub s51;have h1 := h1.sub s51;have szD := Nat.le_trans szD s51.size;have hb_17 := hb_17.sub s51;have hb_20 := hb_20.sub s51;have h3 := h3.sub s51;have hb_16 := hb_16.sub s51;refine RD.back s51.agr ?_;refine RD.tS 7 rfl (fun w' s' => .buildS ze59 pl59 rfl rfl) ?_;refine RD.oneS 8 rfl ?_;refine RL.stS sh59 rfl rfl rfl hb_2 (fun w52 z52 hb_2 a52 => ?_);have S := S.upd a52 ge_2;have h1 := h1.updD a52 d_h1_b_2;have szD := Nat.le_trans szD a52.size;have hb_17 := hb_17.upd a52 n_2__17.symm;have hb_20 := hb_20.upd a52 n_2__20.symm;have h3 := h3.upd a52 n3_2;have hb_16 := hb_16.upd a52 n_2__16.symm;have h4 := h4.upd a52 n4_2
      have hb_2 : Has w52 b_2 ((⟨some ⟨b_16, 0, none⟩, 1, 1, some ⟨b3, 0, none⟩, n, n, some ⟨b4, 0, none⟩, 8, 8⟩ : TbP).cells) _ := hb_2.now (by kernel_rfl)
      refine RD.backW rfl (a52.mono fun k _ e => e ▸ (.inl (rfl))) ?_;refine RD.tS 9 rfl (fun w' s' => .assign rfl) ?_;refine RD.done (by kernel_rfl) (RC.back ?_);refine RC.done (rs := [.cell 2 59, .tmp 3]) (vs := [_, _]) rfl rfl ⟨⟨_, rfl, .inr ⟨(⟨some ⟨b_16, 0, none⟩, 1, 1, some ⟨b3, 0, none⟩, n, n, some ⟨b4, 0, none⟩, 8, 8⟩ : TbP).cells, sh59, hb_2.row, rfl⟩⟩, rfl, trivial⟩ ?_
      exact ⟨S, _, x, _, rfl, (UpN.one ge_16).or ((UpN.one ge3).or ((UpN.one ge4).or up)), (hb_16.ft.and (h3.ft.and (h4.ft.and h1))).imp fun u h => ⟨b_16, b3, b4, rfl, h.1, h.2.1, h.2.2.1, h.2.2.2⟩⟩
     ·
      refine RL.call rfl ok243 (c_repI 8 (by omega) b_20 w48 hb_20) rfl rfl ?_;rintro _ w53 ⟨s54, b4, rfl, ge4, h4⟩
      have n4_2 : b4 ≠ b_2 := (by have := hb_2.lt; omega)
      have ge4 := Nat.le_trans S.size ge4
      have S := S.trans s54;have hb_2 := hb_2.sub s54;have h1 := h1.sub s54;have szD := Nat.le_trans szD s54.size;have hb_17 := hb_17.sub s54;have hb_20 := hb_20.sub s54;have h3 := h3.sub s54;refine RD.back s54.agr ?_;refine RD.oneS 1 rfl ?_;refine RL.buildSlice1 sl57 _ ze77 rfl rfl rfl rfl rfl rfl rfl (fun b_16 w_16 e_16 z_16 hb_16 s_16 => ?_)
      have fr_b_16 : w3.heap.size ≤ b_16 := by rw [e_16]; exact szD
      have ge_16 := S.le e_16;have n_2__16 := hb_2.ne e_16
      have n3__16 := h3.ne e_16
      have n4__16 := h4.ne e_16
      have S := S.trans s_16;have hb_2 := hb_2.sub s_16;have h1 := h1.sub s_16;have szD := Nat.le_trans szD s_16.size;have hb_17 := hb_17.sub s_16;have hb_20 := hb_20.sub s_16;have h3 := h3.sub s_16;have h4 := h4.sub s_16;refine RD.back s_16.agr ?_;refine RD.tS 7 rfl (fun w' s' => .buildS ze59 pl59 rfl rfl) ?_;refine RD.oneS 8 rfl ?_;refine RL.stS sh59 rfl rfl rfl hb_2 (fun w55 z55 hb_2 a55 => ?_);have S := S.upd a55 ge_2;have h1 := h1.updD a55 d_h1_b_2;have szD := Nat.le_trans szD a55.size;have hb_17 := hb_17.upd a55 n_2__17.symm;have hb_20 := hb_20.upd a55 n_2__20.symm;have h3 := h3.upd a55 n3_2;have h4 := h4.upd a55 n4_2;have hb_16 := hb_16.upd a55 n_2__16.symm
      have hb_2 : Has w55 b_2 ((⟨some ⟨b_16, 0, none⟩, 1, 1, some ⟨b3, 0, none⟩, n, n, some ⟨b4, 0, none⟩, 8, 8⟩ : TbP).cells) _ := hb_2.now (by kernel_rfl)
      refine RD.backW rfl (a55.mono fun k _ e => e ▸ (.inl (rfl))) ?_;refine RD.tS 9 rfl (fun w' s' => .assign rfl) ?_;refine RD.done (by kernel_rfl) (RC.back ?_);refine RC.done (rs := [.cell 2 59, .tmp 3]) (vs := [_, _]) rfl rfl ⟨⟨_, rfl, .inr ⟨(⟨some ⟨b_16, 0, none⟩, 1, 1, some ⟨b3, 0, none⟩, n, n, some ⟨b4, 0, none⟩, 8, 8⟩ : TbP).cells, sh59, hb_2.row, rfl⟩⟩, rfl, trivial⟩ ?_
      exact ⟨S, _, x, _, rfl, (UpN.one ge_16).or ((UpN.one ge3).or ((UpN.one ge4).or up)), (hb_16.ft.and (h3.ft.and (h4.ft.and h1))).imp fun u h => ⟨b_16, b3, b4, rfl, h.1, h.2.1, h.2.2.1, h.2.2.2⟩⟩
  ·
   refine RL.buildSlice1 sl24 _ ze3 rfl rfl rfl rfl rfl rfl rfl (fun b_20 w_20 e_20 z_20 hb_20 s_20 => ?_)
   have fr_b_20 : w3.heap.size ≤ b_20 := by rw [e_20]; exact szD
   have n_2__20 := hb_2.ne e_20;have S := S.trans s_20;have hb_2 := hb_2.sub s_20;have h1 := h1.sub s_20;have szD := Nat.le_trans szD s_20.size;refine RD.back s_20.agr ?_;refine RD.all [1, 2] (by kernel_rfl) rfl (RDs.cons rfl ?_ (RDs.cons rfl ?_ (RDs.nil)))
   ·
    refine RL.buildSlice1 sl57 _ ze77 rfl rfl rfl rfl rfl rfl rfl (fun b_16 w_16 e_16 z_16 hb_16 s_16 => ?_)
    have fr_b_16 : w3.heap.size ≤ b_16 := by rw [e_16]; exact szD
    have ge_16 := S.le e_16;have n_2__16 := hb_2.ne e_16;have S := S.trans s_16;have hb_2 := hb_2.sub s_16;have h1 := h1.sub s_16;have szD := Nat.le_trans szD s_16.size;have hb_20 := hb_20.sub s_16;refine RD.back s_16.agr ?_;refine RD.oneS 2 rfl ?_;refine RL.buildSlice1 sl24 _ ze3 rfl rfl rfl rfl rfl rfl rfl (fun b_17 w_17 e_17 z_17 hb_17 s_17 => ?_)
    have fr_b_17 : w3.heap.size ≤ b_17 := by rw [e_17]; exact szD
    have n_2__17 := hb_2.ne e_17;have S := S.trans s_17;have hb_2 := hb_2.sub s_17;have h1 := h1.sub s_17;have szD := Nat.le_trans szD s_17.size;have hb_20 := hb_20.sub s_17;have hb_16 := hb_16.sub s_17;refine RD.back s_17.agr ?_;refine RD.oneS 4 rfl ?_;refine RL.call rfl ok243 (c_repI n (by omega) b_17 w_17 hb_17) rfl rfl ?_;rintro _ w56 ⟨s57, b3, rfl, ge3, h3⟩
    have n3_2 : b3 ≠ b_2 := (by have := hb_2.lt; omega)
    have ge3 := Nat.le_trans S.size ge3
    have S := S.trans s57;have hb_2 := hb_2.sub s57;have h1 := h1.sub s57;have szD := Nat.le_trans szD s57.size;have hb_20 := hb_20.sub s57;have hb_16 := hb_16.sub s57;have hb_17 := hb_17.sub s57;refine RD.back s57.agr ?_;refine RD.oneS 6 rfl ?_;refine RL.call rfl ok243 (c_repI 8 (by omega) b_20 w56 hb_20) rfl rfl ?_;rintro _ w58 ⟨s59, b4, rfl, ge4, h4⟩
    have n4_2 : b4 ≠ b_2 := (by have := hb_2.lt; omega)
    have ge4 := Nat.le_trans S.size ge4
    have S := S.trans s59;have hb_2 := hb_2.sub s59;have h1 := h1.sub s59;have szD := Nat.le_trans szD s59.size;have hb_20 := hb_20.sub s59;have hb_16 := hb_16.sub s59;have hb_17 := hb_17.sub s59;have h3 := h3.sub s59;refine RD.back s59.agr ?_;refine RD.tS 7 rfl (fun w' s' => .buildS ze59 pl59 rfl rfl) ?_;refine RD.oneS 8 rfl ?_;refine RL.stS sh59 rfl rfl rfl hb_2 (fun w60 z60 hb_2 a60 => ?_);have S := S.upd a60 ge_2;have h1 := h1.updD a60 d_h1_b_2;have szD := Nat.le_trans szD a60.size;have hb_20 := hb_20.upd a60 n_2__20.symm;have hb_16 := hb_16.upd a60 n_2__16.symm;have hb_17 := hb_17.upd a60 n_2__17.symm;have h3 := h3.upd a60 n3_2;have h4 := h4.upd a60 n4_2
    have hb_2 : Has w60 b_2 ((⟨some ⟨b_16, 0, none⟩, 1, 1, some ⟨b3, 0, none⟩, n, n, some ⟨b4, 0, none⟩, 8, 8⟩ : TbP).cells) _ := hb_2.now (by kernel_rfl)
    refine RD.backW rfl (a60.mono fun k _ e => e ▸ (.inl (rfl))) ?_;refine RD.tS 9 rfl (fun w' s' => .assign rfl) ?_;refine RD.done (by kernel_rfl) (RC.back ?_);refine RC.done (rs := [.cell 2 59, .tmp 3]) (vs := [_, _]) rfl rfl ⟨⟨_, rfl, .inr ⟨(⟨some ⟨b_16, 0, none⟩, 1, 1, some ⟨b3, 0, none⟩, n, n, some ⟨b4, 0, none⟩, 8, 8⟩ : TbP).cells, sh59, hb_2.row, rfl⟩⟩, rfl, trivial⟩ ?_
    exact ⟨S, _, x, _, rfl, (UpN.one ge_16).or ((UpN.one ge3).or ((UpN.one ge4).or up)), (hb_16.ft.and (h3.ft.and (h4.ft.and h1))).imp fun u h => ⟨b_16, b3, b4, rfl, h.1, h.2.1, h.2.2.1, h.2.2.2⟩⟩
   ·
    refine RL.buildSlice1 sl24 _ ze3 rfl rfl rfl rfl rfl rfl rfl (fun b_17 w_17 e_17 z_17 hb_17 s_17 => ?_)
    have fr_b_17 : w3.heap.size ≤ b_17 := by rw [e_17]; exact szD
    have n_2__17 := hb_2.ne e_17;have S := S.trans s_17;have hb_2 := hb_2.sub s_17;have h1 := h1.sub s_17;have szD := Nat.le_trans szD s_17.size;have hb_20 := hb_20.sub s_17;refine RD.back s_17.agr ?_;refine RD.all [1, 4] (by kernel_rfl) rfl (RDs.cons rfl ?_ (RDs.cons rfl ?_ (RDs.nil)))
    ·
     refine RL.buildSlice1 sl57 _ ze77 rfl rfl rfl rfl rfl rfl rfl (fun b_16 w_16 e_16 z_16 hb_16 s_16 => ?_)
     have fr_b_16 : w3.heap.size ≤ b_16 := by rw [e_16]; exact szD
     have ge_16 := S.le e_16;have n_2__16 := hb_2.ne e_16;have S := S.trans s_16;have hb_2 := hb_2.sub s_16;have h1 := h1.sub s_16;have szD := Nat.le_trans szD s_16.size;have hb_20 := hb_20.sub s_16;have hb_17 := hb_17.sub s_16;refine RD.back s_16.agr ?_;refine RD.oneS 4 rfl ?_;refine RL.call rfl ok243 (c_repI n (by omega) b_17 w_16 hb_17) rfl rfl ?_;rintro _ w61 ⟨s62, b3, rfl, ge3, h3⟩
     have n3_2 : b3 ≠ b_2 := (by have := hb_2.lt; omega)
     have ge3 := Nat.le_trans S.size ge3
     have S := S.trans s62;have hb_2 := hb_2.sub s62;have h1 := h1.sub s62;have szD := Nat.le_trans szD s62.size;have hb_20 := hb_20.sub s62;have hb_17 := hb_17.sub s62;have hb_16 := hb_16.sub s62;refine RD.back s62.agr ?_;refine RD.oneS 6 rfl ?_;refine RL.call rfl ok243 (c_repI 8 (by omega) b_20 w61 hb_20) rfl rfl ?_;rintro _ w63 ⟨s64, b4, rfl, ge4, h4⟩
     have n4_2 : b4 ≠ b_2 := (by have := hb_2.lt; omega)
     have ge4 := Nat.le_trans S.size ge4
     have S := S.trans s64;have hb_2 := hb_2.sub s64;have h1 := h1.sub s64;have szD := Nat.le_trans szD s64.size;have hb_20 := hb_20.sub s64;have hb_17 := hb_17.sub s64;have hb_16 := hb_16.sub s64;have h3 := h3.sub s64;refine RD.back s64.agr ?_;refine RD.tS 7 rfl (fun w' s' => .buildS ze59 pl59 rfl rfl) ?_;refine RD.oneS 8 rfl ?_;refine RL.stS sh59 rfl rfl rfl hb_2 (fun w65 z65 hb_2 a65 => ?_);have S := S.upd a65 ge_2;have h1 := h1.updD a65 d_h1_b_2;have szD := Nat.le_trans szD a65.size;have hb_20 := hb_20.upd a65 n_2__20.symm;have hb_17 := hb_17.upd a65 n_2__17.symm;have hb_16 := hb_16.upd a65 n_2__16.symm;have h3 := h3.upd a65 n3_2;have h4 := h4.upd a65 n4_2
     have hb_2 : Has w65 b_2 ((⟨some ⟨b_16, 0, none⟩, 1, 1, some ⟨b3, 0, none⟩, n, n, some ⟨b4, 0, none⟩, 8, 8⟩ : TbP).cells) _ := hb_2.now (by kernel_rfl)
     refine RD.backW rfl (a65.mono fun k _ e => e ▸ (.inl (rfl))) ?_;refine RD.tS 9 rfl (fun w' s' => .assign rfl) ?_;refine RD.done (by kernel_rfl) (RC.back ?_);refine RC.done (rs := [.cell 2 59, .tmp 3]) (vs := [_, _]) rfl rfl ⟨⟨_, rfl, .inr ⟨(⟨some ⟨b_16, 0, none⟩, 1, 1, some ⟨b3, 0, none⟩, n, n, some ⟨b4, 0, none⟩, 8, 8⟩ : TbP).cells, sh59, hb_2.row, rfl⟩⟩, rfl, trivial⟩ ?_
     exact ⟨S, _, x, _, rfl, (UpN.one ge_16).or ((UpN.one ge3).or ((UpN.one ge4).or up)), (hb_16.ft.and (h3.ft.and (h4.ft.and h1))).imp fun u h => ⟨b_16, b3, b4, rfl, h.1, h.2.1, h.2.2.1, h.2.2.2⟩⟩
    ·
     refine RL.call rfl ok243 (c_repI n (by omega) b_17 w_17 hb_17) rfl rfl ?_;rintro _ w66 ⟨s67, b3, rfl, ge3, h3⟩
     have n3_2 : b3 ≠ b_2 := (by have := hb_2.lt; omega)
     have ge3 := Nat.le_trans S.size ge3
     have S := S.trans s67;have hb_2 := hb_2.sub s67;have h1 := h1.sub s67;have szD := Nat.le_trans szD s67.size;have hb_20 := hb_20.sub s67;refine RD.back s67.agr ?_;refine RD.all [1, 6] (by kernel_rfl) rfl (RDs.cons rfl ?_ (RDs.cons rfl ?_ (RDs.nil)))
     ·
      refine RL.buildSlice1 sl57 _ ze77 rfl rfl rfl rfl rfl rfl rfl (fun b_16 w_16 e_16 z_16 hb_16 s_16 => ?_)
      have fr_b_16 : w3.heap.size ≤ b_16 := by rw [e_16]; exact szD
      have ge_16 := S.le e_16;have n_2__16 := hb_2.ne e_16
      have n3__16 := h3.ne e_16
      have S := S.trans s_16;have hb_2 := hb_2.sub s_16;have h1 := h1.sub s_16;have szD := Nat.le_trans szD s_16.size;have hb_20 := hb_20.sub s_16;have h3 := h3.sub s_16;refine RD.back s_16.agr ?_;refine RD.oneS 6 rfl ?_;refine RL.call rfl ok243 (c_repI 8 (by omega) b_20 w_16 hb_20) rfl rfl ?_;rintro _ w68 ⟨s69, b4, rfl, ge4, h4⟩
      have n4_2 : b4 ≠ b_2 := (by have := hb_2.lt; omega)
      have ge4 := Nat.le_trans S.size ge4
      have S := S.trans s69;have hb_2 := hb_2.sub s69;have h1 := h1.sub s69;have szD := Nat.le_trans szD s69.size;have hb_20 := hb_20.sub s69;have h3 := h3.sub s69;have hb_16 := hb_16.sub s69;refine RD.back s69.agr ?_;refine RD.tS 7 rfl (fun w' s' => .buildS ze59 pl59 rfl rfl) ?_;refine RD.oneS 8 rfl ?_;refine RL.stS sh59 rfl rfl rfl hb_2 (fun w70 z70 hb_2 a70 => ?_);have S := S.upd a70 ge_2;have h1 := h1.updD a70 d_h1_b_2;have szD := Nat.le_trans szD a70.size;have hb_20 := hb_20.upd a70 n_2__20.symm;have h3 := h3.upd a70 n3_2;have hb_16 := hb_16.upd a70 n_2__16.symm;have h4 := h4.upd a70 n4_2
      have hb_2 : Has w70 b_2 ((⟨some ⟨b_16, 0, none⟩, 1, 1, some ⟨b3, 0, none⟩, n, n, some ⟨b4, 0, none⟩, 8, 8⟩ : TbP).cells) _ := hb_2.now (by kernel_rfl)
      refine RD.backW rfl (a70.mono fun k _ e => e ▸ (.inl (rfl))) ?_;refine RD.tS 9 rfl (fun w' s' => .assign rfl) ?_;refine RD.done (by kernel_rfl) (RC.back ?_);refine RC.done (rs := [.cell 2 59, .tmp 3]) (vs := [_, _]) rfl rfl ⟨⟨_, rfl, .inr ⟨(⟨some ⟨b_16, 0, none⟩, 1, 1, some ⟨b3, 0, none⟩, n, n, some ⟨b4, 0, none⟩, 8, 8⟩ : TbP).cells, sh59, hb_2.row, rfl⟩⟩, rfl, trivial⟩ ?_
      exact ⟨S, _, x, _, rfl, (UpN.one ge_16).or ((UpN.one ge3).or ((UpN.one ge4).or up)), (hb_16.ft.and (h3.ft.and (h4.ft.and h1))).imp fun u h => ⟨b_16, b3, b4, rfl, h.1, h.2.1, h.2.2.1, h.2.2.2⟩⟩
     ·
      refine RL.call rfl ok243 (c_repI 8 (by omega) b_20 w66 hb_20) rfl rfl ?_;rintro _ w71 ⟨s72, b4, rfl, ge4, h4⟩
      have n4_2 : b4 ≠ b_2 := (by have := hb_2.lt; omega)
      have ge4 := Nat.le_trans S.size ge4
      have S := S.trans s72;have hb_2 := hb_2.sub s72;have h1 := h1.sub s72;have szD := Nat.le_trans szD s72.size;have h3 := h3.sub s72;refine RD.back s72.agr ?_;refine RD.oneS 1 rfl ?_;refine RL.buildSlice1 sl57 _ ze77 rfl rfl rfl rfl rfl rfl rfl (fun b_16 w_16 e_16 z_16 hb_16 s_16 => ?_)
      have fr_b_16 : w3.heap.size ≤ b_16 := by rw [e_16]; exact szD
      have ge_16 := S.le e_16;have n_2__16 := hb_2.ne e_16
      have n3__16 := h3.ne e_16
      have n4__16 := h4.ne e_16
      have S := S.trans s_16;have hb_2 := hb_2.sub s_16;have h1 := h1.sub s_16;have h3 := h3.sub s_16;have h4 := h4.sub s_16;refine RD.back s_16.agr ?_;refine RD.tS 7 rfl (fun w' s' => .buildS ze59 pl59 rfl rfl) ?_;refine RD.oneS 8 rfl ?_;refine RL.stS sh59 rfl rfl rfl hb_2 (fun w73 z73 hb_2 a73 => ?_);have S := S.upd a73 ge_2;have h1 := h1.updD a73 d_h1_b_2;have h3 := h3.upd a73 n3_2;have h4 := h4.upd a73 n4_2;have hb_16 := hb_16.upd a73 n_2__16.symm
      have hb_2 : Has w73 b_2 ((⟨some ⟨b_16, 0, none⟩, 1, 1, some ⟨b3, 0, none⟩, n, n, some ⟨b4, 0, none⟩, 8, 8⟩ : TbP).cells) _ := hb_2.now (by kernel_rfl)
      refine RD.backW rfl (a73.mono fun k _ e => e ▸ (.inl (rfl))) ?_;refine RD.tS 9 rfl (fun w' s' => .assign rfl) ?_;refine RD.done (by kernel_rfl) (RC.back ?_);refine RC.done (rs := [.cell 2 59, .tmp 3]) (vs := [_, _]) rfl rfl ⟨⟨_, rfl, .inr ⟨(⟨some ⟨b_16, 0, none⟩, 1, 1, some ⟨b3, 0, none⟩, n, n, some ⟨b4, 0, none⟩, 8, 8⟩ : TbP).cells, sh59, hb_2.row, rfl⟩⟩, rfl, trivial⟩ ?_
      exact ⟨S, _, x, _, rfl, (UpN.one ge_16).or ((UpN.one ge3).or ((UpN.one ge4).or up)), (hb_16.ft.and (h3.ft.and (h4.ft.and h1))).imp fun u h => ⟨b_16, b3, b4, rfl, h.1, h.2.1, h.2.2.1, h.2.2.2⟩⟩
theorem Mnew_up {w w' : World} (s : Sub w w') : UpN w (Mnew (fun _ => False) w w') := fun k hk => .inr (hk.elim (fun h => h.elim) (fun h => h.1))
open Go Go.XL
def wkC (na fa : Option Addr) (nc fc : Nat) (A : Ar) (R : Rt) : List Value := [.slice na A.nodes.length nc, .slice fa A.free.length fc, .int .u64 R.m, .int .u64 R.t, .int .u64 R.r, .int .u64 R.h]
def WkO (b : Nat) (A : Ar) (R : Rt) (C : Nat → Prop) (u : World) : Prop :=
  C b ∧ ∃ na fa nc fc M, Has u b (wkC na fa nc fc A R) 109 ∧ A.nodes.length ≤ nc ∧ A.free.length ≤ fc ∧ Ft M (fun u => ArR u na fa A) u ∧ ¬ M b ∧ ∀ k, M k → C k
theorem WkO.ft {b : Nat} {A : Ar} {R : Rt} {M : Nat → Prop} {w : World} {na fa : Option Addr} {nc fc : Nat} (h : Has w b (wkC na fa nc fc A R) 109) (h1 : A.nodes.length ≤ nc) (h2 : A.free.length ≤ fc) (h3 : Ft M (fun u => ArR u na fa A) w) (h4 : ¬ M b) :
    Ft (fun k => k = b ∨ M k) (WkO b A R (fun k => k = b ∨ M k)) w :=
  ⟨fun k hk => hk.elim (fun e => e ▸ h.lt) (h3.lt k), fun u a => ⟨.inl rfl, na, fa, nc, fc, M, h.step a (fun hn => hn (.inl rfl)), h1, h2, h3.step a (fun k hk hn => hn (.inr hk)), h4, fun k hk => .inr hk⟩⟩
structure RsT where
  e : Int
  a : Int
  b : Int
  deriving DecidableEq
def RsT.cells (x : RsT) : List Value := [.int .i64 x.e, .int .i64 x.a, .int .i64 x.b]
def RsT.val (x : RsT) : Value := .agg x.cells.toArray
def tellR (e a b : Int) : RsT := if e = 0 then ⟨0, a, b⟩ else ⟨e, 0, 0⟩
theorem c_tellR (e a b : Int) (w : World) : FC Tryz.prog 76 [.int .i64 e, .int .i64 a, .int .i64 b] w (Val (tellR e a b).val w) := by
 refine FC.intro Tryz.func76 rfl Tryz.ntmps76 rfl ?_
 have S := Sub.refl w
 refine RC.seq (RC.region rfl ?_);refine RL.alloc ze38 rfl rfl (fun b_6 w_6 e_6 z_6 hb_6 s_6 => ?_);have ge_6 := S.le e_6;have S := S.trans s_6;refine RL.nil (RC.back (RC.seq (RC.seq (RC.region rfl ?_))));refine RL.mvS rfl ?_;refine RL.eS (.bin rfl rfl rfl) ?_;refine RL.nil (RC.back ?_);refine RC.cond_dec rfl (fun h1 => ?_) (fun h1 => ?_)
 ·
  have he := h1
  refine RC.seq (RC.region rfl ?_);refine RL.mvS rfl ?_;refine RL.eS (.buildS ze38 pl38 rfl rfl) ?_;refine RL.stS sh38 rfl rfl rfl hb_6 (fun w2 z2 hb_6 a2 => ?_);have S := S.upd a2 ge_6
  have hb_6 : Has w2 b_6 ((⟨e, 0, 0⟩ : RsT).cells) _ := hb_6.now (by kernel_rfl)
  refine RL.nil (RC.back ?_);refine RC.done (rs := [.cell 6 38]) (vs := [_]) rfl rfl ⟨⟨_, rfl, .inr ⟨(⟨e, 0, 0⟩ : RsT).cells, sh38, hb_6.row, rfl⟩⟩, trivial⟩ ?_
  rw [tellR, if_neg he]
  exact ⟨rfl, S⟩
 ·
  have he : e = 0 := Decidable.not_not.1 h1
  refine RC.skip (RC.back (RC.seq (RC.region rfl ?_)));refine RL.mvS rfl ?_;refine RL.mvS rfl ?_;refine RL.eS (.buildS ze38 pl38 rfl rfl) ?_;refine RL.stS sh38 rfl rfl rfl hb_6 (fun w3 z3 hb_6 a3 => ?_);have S := S.upd a3 ge_6
  have hb_6 : Has w3 b_6 ((⟨0, a, b⟩ : RsT).cells) _ := hb_6.now (by kernel_rfl)
  refine RL.nil (RC.back ?_);refine RC.done (rs := [.cell 6 38]) (vs := [_]) rfl rfl ⟨⟨_, rfl, .inr ⟨(⟨0, a, b⟩ : RsT).cells, sh38, hb_6.row, rfl⟩⟩, trivial⟩ ?_
  rw [tellR, if_pos he]
  exact ⟨rfl, S⟩
theorem c_tookM (b : Nat) (A : Ar) (R : Rt) (C : Nat → Prop) (nb fb : Option Addr) (ncb fcb : Nat) (B : Ar) (hnB : B.nodes.length ≤ ncb) (hfB : B.free.length ≤ fcb) (MB : Nat → Prop) (r e : Int) (w : World) (hF : Ft C (WkO b A R C) w) (hB : Ft MB (fun u => ArR u nb fb B) w) (hMb : ∀ k, MB k → k ≠ b) :
  FC Tryz.prog 75 [.pointer (some ⟨b, 0, none⟩), arV nb fb ncb fcb B, .pointer (some ⟨b, 2, none⟩), .int .u64 r, .int .i64 e] w (fun v w' => ∃ C', Ft C' (WkO b (if e = 0 then B else A) (if e = 0 then { R with m := r } else R) C') w' ∧ Agr (· = b) w w' ∧ ∀ k, C' k → C k ∨ MB k) := by
 obtain ⟨hCb, na, fa, nc, fc, M, hbf, hnc, hfc, hA, hMb', hMC⟩ := hF.now
 have dA : ∀ k, M k → k ≠ b := fun k hk e => hMb' (e ▸ hk)
 refine FC.intro Tryz.func75 rfl Tryz.ntmps75 rfl ?_
 have G : Agr (· = b) w w := Agr.refl _ _
 refine RC.seq (RC.region rfl ?_);refine RL.box rfl rfl rfl (fun b_6 w_6 e_6 z_6 hb_6 s_6 => ?_);have G := G.trans s_6.agr;have hbf := hbf.sub s_6;have hB := hB.sub s_6;have hF := hF.sub s_6
 have hb_6 : Has w_6 b_6 ([.slice nb B.nodes.length ncb, .slice fb B.free.length fcb]) _ := hb_6
 refine RL.nil (RC.back (RC.seq (RC.region rfl ?_)));refine RL.mvS rfl ?_;refine RL.eS (.bin rfl rfl rfl) ?_;refine RL.nil (RC.back ?_);refine RC.cond_dec rfl (fun h1 => ?_) (fun h1 => ?_)
 ·
  have he : e = 0 := h1
  refine RC.region rfl ?_;refine RL.mvS rfl ?_;refine RL.mvS rfl ?_;refine RL.eS (.loadR ([.slice nb B.nodes.length ncb, .slice fb B.free.length fcb]) sh26 rfl hb_6.row rfl) ?_;refine RL.mvS rfl ?_;refine RL.eS (.nilCheck rfl) ?_;refine RL.eS (.field0 fo109_0 rfl) ?_;refine RL.stS sh26 rfl rfl rfl hbf (fun w2 z2 hbf a2 => ?_);have G := G.trans a2;have hB := hB.updD a2 hMb
  have hbf : Has w2 b (wkC nb fb ncb fcb B R) _ := hbf.eqc (by kernel_rfl)
  refine RL.eS (.nilCheck rfl) ?_;refine RL.stS sh31 rfl rfl rfl hbf (fun w3 z3 hbf a3 => ?_);have G := G.trans a3;have hB := hB.updD a3 hMb
  have hbf : Has w3 b (wkC nb fb ncb fcb B { R with m := r }) _ := hbf.eqc (by kernel_rfl)
  refine RL.nil ?_
  refine fun a ka => ⟨ka.defers, _, run_results (rs := []) (vs := []) ka rfl trivial, ?_⟩
  rw [if_pos he, if_pos he]
  exact ⟨_, WkO.ft hbf hnB hfB hB (fun h => hMb _ h rfl), G, fun k hk => hk.elim (fun e => .inl (e ▸ hCb)) .inr⟩
 ·
  have he : ¬ e = 0 := h1
  refine RC.skip ?_
  refine fun a ka => ⟨ka.defers, _, run_results (rs := []) (vs := []) ka rfl trivial, ?_⟩
  rw [if_neg he, if_neg he]
  exact ⟨C, hF, G, fun k hk => .inl hk⟩
theorem c_tookT (b : Nat) (A : Ar) (R : Rt) (C : Nat → Prop) (nb fb : Option Addr) (ncb fcb : Nat) (B : Ar) (hnB : B.nodes.length ≤ ncb) (hfB : B.free.length ≤ fcb) (MB : Nat → Prop) (r e : Int) (w : World) (hF : Ft C (WkO b A R C) w) (hB : Ft MB (fun u => ArR u nb fb B) w) (hMb : ∀ k, MB k → k ≠ b) :
  FC Tryz.prog 75 [.pointer (some ⟨b, 0, none⟩), arV nb fb ncb fcb B, .pointer (some ⟨b, 3, none⟩), .int .u64 r, .int .i64 e] w (fun v w' => ∃ C', Ft C' (WkO b (if e = 0 then B else A) (if e = 0 then { R with t := r } else R) C') w' ∧ Agr (· = b) w w' ∧ ∀ k, C' k → C k ∨ MB k) := by
 obtain ⟨hCb, na, fa, nc, fc, M, hbf, hnc, hfc, hA, hMb', hMC⟩ := hF.now
 have dA : ∀ k, M k → k ≠ b := fun k hk e => hMb' (e ▸ hk)
 refine FC.intro Tryz.func75 rfl Tryz.ntmps75 rfl ?_
 have G : Agr (· = b) w w := Agr.refl _ _
 refine RC.seq (RC.region rfl ?_);refine RL.box rfl rfl rfl (fun b_6 w_6 e_6 z_6 hb_6 s_6 => ?_);have G := G.trans s_6.agr;have hbf := hbf.sub s_6;have hB := hB.sub s_6;have hF := hF.sub s_6
 have hb_6 : Has w_6 b_6 ([.slice nb B.nodes.length ncb, .slice fb B.free.length fcb]) _ := hb_6
 refine RL.nil (RC.back (RC.seq (RC.region rfl ?_)));refine RL.mvS rfl ?_;refine RL.eS (.bin rfl rfl rfl) ?_;refine RL.nil (RC.back ?_);refine RC.cond_dec rfl (fun h1 => ?_) (fun h1 => ?_)
 ·
  have he : e = 0 := h1
  refine RC.region rfl ?_;refine RL.mvS rfl ?_;refine RL.mvS rfl ?_;refine RL.eS (.loadR ([.slice nb B.nodes.length ncb, .slice fb B.free.length fcb]) sh26 rfl hb_6.row rfl) ?_;refine RL.mvS rfl ?_;refine RL.eS (.nilCheck rfl) ?_;refine RL.eS (.field0 fo109_0 rfl) ?_;refine RL.stS sh26 rfl rfl rfl hbf (fun w2 z2 hbf a2 => ?_);have G := G.trans a2;have hB := hB.updD a2 hMb
  have hbf : Has w2 b (wkC nb fb ncb fcb B R) _ := hbf.eqc (by kernel_rfl)
  refine RL.eS (.nilCheck rfl) ?_;refine RL.stS sh31 rfl rfl rfl hbf (fun w3 z3 hbf a3 => ?_);have G := G.trans a3;have hB := hB.updD a3 hMb
  have hbf : Has w3 b (wkC nb fb ncb fcb B { R with t := r }) _ := hbf.eqc (by kernel_rfl)
  refine RL.nil ?_
  refine fun a ka => ⟨ka.defers, _, run_results (rs := []) (vs := []) ka rfl trivial, ?_⟩
  rw [if_pos he, if_pos he]
  exact ⟨_, WkO.ft hbf hnB hfB hB (fun h => hMb _ h rfl), G, fun k hk => hk.elim (fun e => .inl (e ▸ hCb)) .inr⟩
 ·
  have he : ¬ e = 0 := h1
  refine RC.skip ?_
  refine fun a ka => ⟨ka.defers, _, run_results (rs := []) (vs := []) ka rfl trivial, ?_⟩
  rw [if_neg he, if_neg he]
  exact ⟨C, hF, G, fun k hk => .inl hk⟩
def Fo (b : Nat) (s : St) (C : Nat → Prop) (u : World) : Prop :=
  C b ∧ ∃ na fa nc fc M, Has u b (frC na fa nc fc s.1 s.2) 130 ∧ s.1.nodes.length ≤ nc ∧ s.1.free.length ≤ fc ∧ Ft M (fun u => ArR u na fa s.1) u ∧ ¬ M b ∧ ∀ k, M k → C k
theorem Fo.ft {b : Nat} {s : St} {M : Nat → Prop} {w : World} {na fa : Option Addr} {nc fc : Nat} (h : Has w b (frC na fa nc fc s.1 s.2) 130) (h1 : s.1.nodes.length ≤ nc) (h2 : s.1.free.length ≤ fc) (h3 : Ft M (fun u => ArR u na fa s.1) w) (h4 : ¬ M b) :
    Ft (fun k => k = b ∨ M k) (Fo b s (fun k => k = b ∨ M k)) w :=
  ⟨fun k hk => hk.elim (fun e => e ▸ h.lt) (h3.lt k), fun u a => ⟨.inl rfl, na, fa, nc, fc, M, h.step a (fun hn => hn (.inl rfl)), h1, h2, h3.step a (fun k hk hn => hn (.inr hk)), h4, fun k hk => .inr hk⟩⟩
theorem c_fget (b : Nat) (s : St) (C : Nat → Prop) (r : Int) (hr : U64 r) (w : World) (hF : Ft C (Fo b s C) w) :
  FC Tryz.prog 115 [.pointer (some ⟨b, 0, none⟩), .int .u64 r] w (Val (getN s.1 r).val w) := by
 obtain ⟨hCb, na, fa, nc, fc, M, hbf, hnc, hfc, hA, hMb, hMC⟩ := hF.now
 obtain ⟨e, hgv⟩ := getN_v s.1 r
 have hA := hA.now
 refine FC.intro Tryz.func115 rfl Tryz.ntmps115 rfl ?_
 have S := Sub.refl w
 refine RC.seq (RC.region rfl ?_);refine RL.alloc ze140 rfl rfl (fun b_4 w_4 e_4 z_4 hb_4 s_4 => ?_);have ge_4 := S.le e_4;have S := S.trans s_4;have hbf := hbf.sub s_4;refine RL.nil (RC.back (RC.seq (RC.region rfl ?_)));refine RL.mvS rfl ?_;refine RL.eS (.nilCheck rfl) ?_;refine RL.eS (.field0 fo130_0 rfl) ?_;refine RL.eS (.loadR (frA na fa nc fc s.1) sh26 rfl (row_pre (xs := frA na fa nc fc s.1) (ys := [.int .i64 s.2]) hbf) rfl) ?_;refine RL.mvS rfl ?_;refine RL.call rfl ok125 (c_aGet s.1 na fa nc fc r hr w_4 (hA.sub S)) rfl rfl ?_;rintro _ w1 ⟨rfl, s2⟩;have S := S.trans s2;have hb_4 := hb_4.sub s2;refine RL.eS (.as (v' := .tuple #[(getN s.1 r).val, .int .i64 e]) (.move rfl) (by rw [hgv])) ?_;refine RL.eS (.extract rfl rfl) ?_;refine RL.eS (.extract rfl rfl) ?_;refine RL.alloc ze140 rfl rfl (fun b_5 w_5 e_5 z_5 hb_5 s_5 => ?_);have ge_5 := S.le e_5;have n_4__5 := hb_4.ne e_5;have S := S.trans s_5;have hb_4 := hb_4.sub s_5;refine RL.stS sh140 rfl rfl rfl hb_5 (fun w3 z3 hb_5 a3 => ?_);have S := S.upd a3 ge_5;have hb_4 := hb_4.upd a3 n_4__5
 have hb_5 : Has w3 b_5 ((getN s.1 r).cells) _ := hb_5.now (by kernel_rfl)
 refine RL.asS rfl ?_;refine RL.nil (RC.back (RC.seq (RC.region rfl ?_)));refine RL.eS (.loadR ((getN s.1 r).cells) sh140 rfl hb_5.row rfl) ?_;refine RL.stS sh140 rfl rfl rfl hb_4 (fun w4 z4 hb_4 a4 => ?_);have S := S.upd a4 ge_4
 have hb_4 : Has w4 b_4 ((getN s.1 r).cells) _ := hb_4.now (by kernel_rfl)
 refine RL.nil (RC.back ?_);refine RC.done (rs := [.cell 4 140]) (vs := [_]) rfl rfl ⟨⟨_, rfl, .inr ⟨(getN s.1 r).cells, sh140, hb_4.row, rfl⟩⟩, trivial⟩ ?_
 exact ⟨rfl, S⟩
theorem mkN_ok {A : Ar} {n v x y : Int} (hn : I64 n) (hv : I64 v) (hx : U64 x) (hy : U64 y) : (mkN A n v x y).ok := by
  have hz : U64 0 := by unfold U64; decide
  have hi : I64 0 := by unfold I64; decide
  refine ⟨by unfold I64; show _ ≤ (1 : Int) ∧ (1 : Int) ≤ _; omega, hi, hn, hv, by unfold I64; show _ ≤ IntKind.i64.wrap _ ∧ IntKind.i64.wrap _ ≤ _; rw [IntKind.wrap_i64]; omega, ?_, hi, hi⟩
  intro k hk
  simp only [mkN, tNode, Node.kids, List.mem_cons, List.not_mem_nil, or_false] at hk
  rcases hk with rfl | rfl | rfl | rfl | rfl | rfl | rfl | rfl | rfl <;> assumption
theorem c_fmake (bf : Nat) (s : St) (C : Nat → Prop) (n v x y : Int) (hn : I64 n) (hv : I64 v) (hx : U64 x) (hy : U64 y) (w : World) (hF : Ft C (Fo bf s C) w) :
    FC Tryz.prog 194 [.pointer (some ⟨bf, 0, none⟩), .int .i64 n, .int .i64 v, .int .u64 x, .int .u64 y] w (fun u w' => ∃ s' r C', u = .int .u64 r ∧ Mk s n v x y s' r ∧ Ft C' (Fo bf s' C') w' ∧ Agr (· = bf) w w' ∧ Up C w C') := by
  obtain ⟨hCb, na, fa, nc, fc, M, hbf, hnc, hfc, hA, hMb, hMC⟩ := hF.now
  obtain ⟨A, bad⟩ := s
  simp only [] at hbf hnc hfc hA
  have dA : ∀ k, M k → k ≠ bf := fun k hk e => hMb (e ▸ hk)
  refine FC.intro Tryz.func194 rfl Tryz.ntmps194 rfl ?_
  have G : Agr (· = bf) w w := Agr.refl _ _
  refine RC.seq (RC.region rfl ?_);refine RL.asS rfl ?_;refine RL.nil (RC.back (RC.seq (RC.seq (RC.region rfl ?_))));refine RL.mvS rfl ?_;refine RL.eS (.nilCheck rfl) ?_;refine RL.eS (.field0 fo130_1 rfl) ?_;refine RL.eS (.load1 sh27 rfl (hbf.cell rfl)) ?_;refine RL.eS (.bin rfl rfl rfl) ?_;refine RL.nil (RC.back ?_);refine RC.cond_dec rfl (fun h1 => ?_) (fun h1 => ?_)
  ·
    have hbad : ¬ bad = 0 := h1
    refine RC.seq (RC.region rfl ?_);refine RL.asS rfl ?_;refine RL.nil (RC.back ?_);refine RC.d1 10 rfl rfl rfl ?_
    exact ⟨(A, bad), 0, C, rfl, .inl ⟨hbad, rfl, rfl⟩, hF, G, Up.refl _ _⟩
  ·
    have hbad : bad = 0 := Decidable.not_not.1 h1
    refine RC.skip (RC.back (RC.seq (RC.region rfl ?_)));refine RL.mvS rfl ?_;refine RL.mvS rfl ?_;refine RL.mvS rfl ?_;refine RL.mvS rfl ?_;refine RL.call rfl ok115 (c_fget bf (A, bad) C x hx w hF) rfl rfl ?_;rintro _ w2 ⟨rfl, s3⟩;have G := G.trans s3.agr;have hbf := hbf.sub s3;have hA := hA.sub s3;have hF := hF.sub s3;refine RL.eS (.as (v' := .int .i64 (sizeA A x)) (.fieldV Tryz.underlying140 rfl sh2 rfl rfl) (by show Value.int .i64 (getN A x).s = _; rw [getN_s])) ?_;refine RL.eS (.bin rfl rfl rfl) ?_;refine RL.mvS rfl ?_;refine RL.mvS rfl ?_;refine RL.call rfl ok115 (c_fget bf (A, bad) C y hy w2 hF) rfl rfl ?_;rintro _ w4 ⟨rfl, s5⟩;have G := G.trans s5.agr;have hbf := hbf.sub s5;have hA := hA.sub s5;refine RL.eS (.as (v' := .int .i64 (sizeA A y)) (.fieldV Tryz.underlying140 rfl sh2 rfl rfl) (by show Value.int .i64 (getN A y).s = _; rw [getN_s])) ?_;refine RL.eS (.bin rfl rfl rfl) ?_;refine RL.eS (.buildS ze140 pl140 rfl rfl) ?_;refine RL.alloc ze140 rfl rfl (fun b_11 w_11 e_11 z_11 hb_11 s_11 => ?_);have nf__11 := hbf.ne e_11;have d_hA_b_11 := hA.neNew e_11
    have geG_11 := agLe G e_11
    have G := G.trans s_11.agr;have hbf := hbf.sub s_11;have hA := hA.sub s_11;refine RL.stS sh140 rfl rfl rfl hb_11 (fun w6 z6 hb_11 a6 => ?_)
    have G := agNew G a6 geG_11
    have hbf := hbf.upd a6 nf__11;have hA := hA.updD a6 d_hA_b_11
    have hb_11 : Has w6 b_11 ((tNode 0 n v (szF A x y) 0 0).cells) _ := hb_11.now (by kernel_rfl)
    refine RL.nil (RC.back (RC.seq (RC.region rfl ?_)));refine RL.mvS rfl ?_;refine RL.mvS rfl ?_;refine RL.eS (.field0 fo140_5 rfl) ?_;refine RL.eS (.indexArr ar138 rfl rfl (by omega)) ?_;refine RL.stS sh31 rfl rfl rfl hb_11 (fun w7 z7 hb_11 a7 => ?_)
    have G := agNew G a7 geG_11
    have hbf := hbf.upd a7 nf__11;have hA := hA.updD a7 d_hA_b_11
    have hb_11 : Has w7 b_11 ((tNode 0 n v (szF A x y) x 0).cells) _ := hb_11
    refine RL.eS (.field0 fo140_5 rfl) ?_;refine RL.eS (.indexArr ar138 rfl rfl (by omega)) ?_;refine RL.stS sh31 rfl rfl rfl hb_11 (fun w8 z8 hb_11 a8 => ?_)
    have G := agNew G a8 geG_11
    have hbf := hbf.upd a8 nf__11;have hA := hA.updD a8 d_hA_b_11
    have hb_11 : Has w8 b_11 ((mkN A n v x y).cells) _ := hb_11
    have hxo : (mkN A n v x y).ok := mkN_ok hn hv hx hy
    refine RL.nil (RC.back (RC.seq ?_));refine RC.drawD (fun k => False) [11] w8.heap.size 14 rfl rfl mxo (fun w9 s10 => ?_);have ltD_bf := hbf.lt;have ltD_b_11 := hb_11.lt;have szD := Nat.le_refl w8.heap.size;have G := G.trans s10.agr;have hbf := hbf.sub s10;have hA := hA.sub s10;have hb_11 := hb_11.sub s10;have szD := Nat.le_trans szD s10.size;refine RD.tS 0 rfl (fun w' s' => .move rfl) ?_;refine RD.tS 1 rfl (fun w' s' => .nilCheck rfl) ?_;refine RD.tS 2 rfl (fun w' s' => .field0 fo130_0 rfl) ?_;refine RD.tS 3 rfl (fun w' s' => .loadR (frA na fa nc fc A) sh26 rfl (row_pre (xs := frA na fa nc fc A) (ys := [.int .i64 bad]) (hbf.step s' (fun e => e.elim (fun e => e.elim) (fun e => Nat.not_le.2 ltD_bf e)))) rfl) ?_;refine RD.tS 4 rfl (fun w' s' => .loadR ((mkN A n v x y).cells) sh140 rfl (hb_11.step s' (fun e => e.elim (fun e => e.elim) (fun e => Nat.not_le.2 ltD_b_11 e))).row rfl) ?_;refine RD.all [5, 10] (by kernel_rfl) rfl (RDs.cons rfl ?_ (RDs.cons rfl ?_ (RDs.nil)))
    ·
      refine RL.call rfl ok219 (c_aMake A na fa nc fc (mkN A n v x y) hxo w9 hA.now hfc) rfl rfl ?_;rintro _ w11 ⟨s12, hr2⟩
      obtain ⟨nb, fb, ncb, fcb, B, rB, eB, rfl, hnB, hfB, hiB, he0, he1⟩ := make_form hr2
      have szGM := G.size;have d_hB_bf := neFt (w' := w11) dA hbf.lt
      have hB := hA.ans hiB s12
      have G := G.trans s12.agr;have hbf := hbf.sub s12;have hA := hA.sub s12;have szD := Nat.le_trans szD s12.size;refine RD.back s12.agr ?_;refine RD.tS 6 rfl (fun w' s' => .move rfl) ?_;refine RD.tS 7 rfl (fun w' s' => .extract rfl rfl) ?_;refine RD.tS 8 rfl (fun w' s' => .extract rfl rfl) ?_;refine RD.tS 9 rfl (fun w' s' => .extract rfl rfl) ?_;refine RD.oneS 10 rfl ?_;refine RL.alloc ze26 rfl rfl (fun b_12 w_12 e_12 z_12 hb_12 s_12 => ?_)
      have fr_b_12 : w8.heap.size ≤ b_12 := by rw [e_12]; exact szD
      have nf__12 := hbf.ne e_12;have d_hA_b_12 := hA.neNew e_12;have d_hB_b_12 := hB.neNew e_12
      have geG_12 := agLe G e_12
      have G := G.trans s_12.agr;have hbf := hbf.sub s_12;have hA := hA.sub s_12;have szD := Nat.le_trans szD s_12.size;have hB := hB.sub s_12;refine RD.back s_12.agr ?_;refine RD.oneS 11 rfl ?_;refine RL.stS sh26 rfl rfl rfl hb_12 (fun w13 z13 hb_12 a13 => ?_)
      have G := agNew G a13 geG_12
      have hbf := hbf.upd a13 nf__12;have hA := hA.updD a13 d_hA_b_12;have szD := Nat.le_trans szD a13.size;have hB := hB.updD a13 d_hB_b_12
      have hb_12 : Has w13 b_12 ([.slice nb B.nodes.length ncb, .slice fb B.free.length fcb]) _ := hb_12.now (by kernel_rfl)
      refine RD.backW rfl (a13.mono fun k _ e => e ▸ (.inr fr_b_12)) ?_;refine RD.tS 12 rfl (fun w' s' => .assign rfl) ?_;refine RD.tS 13 rfl (fun w' s' => .assign rfl) ?_;refine RD.done (by kernel_rfl) (RC.back ?_);refine RC.seq (RC.seq (RC.region rfl ?_));refine RL.mvS rfl ?_;refine RL.mvS rfl ?_;refine RL.eS (.nilCheck rfl) ?_;refine RL.eS (.field0 fo130_1 rfl) ?_;refine RL.stS sh27 rfl rfl rfl hbf (fun w14 z14 hbf a14 => ?_);have G := G.trans a14;have hA := hA.updD a14 dA;have hB := hB.updD a14 d_hB_bf;have hb_12 := hb_12.upd a14 nf__12.symm
      have hbf : Has w14 bf (frC na fa nc fc A eB) _ := hbf
      refine RL.nil (RC.back (RC.seq (RC.region rfl ?_)));refine RL.mvS rfl ?_;refine RL.eS (.bin rfl rfl rfl) ?_;refine RL.nil (RC.back ?_);refine RC.cond_dec rfl (fun h15 => ?_) (fun h15 => ?_)
      ·
        have he := h15
        refine RC.seq (RC.region rfl ?_);refine RL.asS rfl ?_;refine RL.nil (RC.back ?_);refine RC.d1 10 rfl rfl rfl ?_
        obtain ⟨rfl, rfl, hcs⟩ := he1 he
        refine ⟨(A, eB), 0, _, rfl, .inr (.inr ?_), Fo.ft hbf hnc hfc hA hMb, G, fun k hk => .inl (hk.elim (fun e => e ▸ hCb) (hMC k))⟩
        rcases hcs with ⟨h1, h2⟩ | ⟨h1, h2, h3⟩
        · exact .inr ⟨hbad, h1, by rw [h2], rfl⟩
        · exact .inl ⟨hbad, h1, h2, by rw [h3], rfl⟩
      ·
        have he : eB = 0 := Decidable.not_not.1 h15
        refine RC.skip (RC.back (RC.seq (RC.region rfl ?_)));refine RL.mvS rfl ?_;refine RL.eS (.loadR ([.slice nb B.nodes.length ncb, .slice fb B.free.length fcb]) sh26 rfl hb_12.row rfl) ?_;refine RL.eS (.nilCheck rfl) ?_;refine RL.eS (.field0 fo130_0 rfl) ?_;refine RL.stS sh26 rfl rfl rfl hbf (fun w16 z16 hbf a16 => ?_);have G := G.trans a16;have hA := hA.updD a16 dA;have hB := hB.updD a16 d_hB_bf;have hb_12 := hb_12.upd a16 nf__12.symm
        have hbf : Has w16 bf (frC nb fb ncb fcb B eB) _ := hbf
        refine RL.nil (RC.back (RC.seq (RC.region rfl ?_)));refine RL.mvS rfl ?_;refine RL.asS rfl ?_;refine RL.nil (RC.back ?_);refine RC.d1 10 rfl rfl rfl ?_
        obtain ⟨h1, h2, h3, h4⟩ := he0 he
        exact ⟨(B, eB), rB, _, rfl, .inr (.inl ⟨hbad, h1, h2, by rw [he, h3], h4⟩), Fo.ft hbf hnB hfB hB (fun e => d_hB_bf _ e rfl), G, fun k hk => hk.elim (fun e => .inl (e ▸ hCb)) (fun e => e.elim (fun e => .inl (hMC k e)) (fun e => .inr (Nat.le_trans szGM e.1)))⟩
    ·
      refine RL.alloc ze26 rfl rfl (fun b_12 w_12 e_12 z_12 hb_12 s_12 => ?_)
      have fr_b_12 : w8.heap.size ≤ b_12 := by rw [e_12]; exact szD
      have nf__12 := hbf.ne e_12;have d_hA_b_12 := hA.neNew e_12
      have geG_12 := agLe G e_12
      have G := G.trans s_12.agr;have hbf := hbf.sub s_12;have hA := hA.sub s_12;refine RD.back s_12.agr ?_;refine RD.oneS 5 rfl ?_;refine RL.call rfl ok219 (c_aMake A na fa nc fc (mkN A n v x y) hxo w_12 hA.now hfc) rfl rfl ?_;rintro _ w17 ⟨s18, hr2⟩
      obtain ⟨nb, fb, ncb, fcb, B, rB, eB, rfl, hnB, hfB, hiB, he0, he1⟩ := make_form hr2
      have szGM := G.size;have d_hB_bf := neFt (w' := w17) dA hbf.lt;have d_hB_b_12 := neFt (w' := w17) d_hA_b_12 hb_12.lt
      have hB := hA.ans hiB s18
      have G := G.trans s18.agr;have hbf := hbf.sub s18;have hA := hA.sub s18;have hb_12 := hb_12.sub s18;refine RD.back s18.agr ?_;refine RD.tS 6 rfl (fun w' s' => .move rfl) ?_;refine RD.tS 7 rfl (fun w' s' => .extract rfl rfl) ?_;refine RD.tS 8 rfl (fun w' s' => .extract rfl rfl) ?_;refine RD.tS 9 rfl (fun w' s' => .extract rfl rfl) ?_;refine RD.oneS 11 rfl ?_;refine RL.stS sh26 rfl rfl rfl hb_12 (fun w19 z19 hb_12 a19 => ?_)
      have G := agNew G a19 geG_12
      have hbf := hbf.upd a19 nf__12;have hA := hA.updD a19 d_hA_b_12;have hB := hB.updD a19 d_hB_b_12
      have hb_12 : Has w19 b_12 ([.slice nb B.nodes.length ncb, .slice fb B.free.length fcb]) _ := hb_12.now (by kernel_rfl)
      refine RD.backW rfl (a19.mono fun k _ e => e ▸ (.inr fr_b_12)) ?_;refine RD.tS 12 rfl (fun w' s' => .assign rfl) ?_;refine RD.tS 13 rfl (fun w' s' => .assign rfl) ?_;refine RD.done (by kernel_rfl) (RC.back ?_);refine RC.seq (RC.seq (RC.region rfl ?_));refine RL.mvS rfl ?_;refine RL.mvS rfl ?_;refine RL.eS (.nilCheck rfl) ?_;refine RL.eS (.field0 fo130_1 rfl) ?_;refine RL.stS sh27 rfl rfl rfl hbf (fun w20 z20 hbf a20 => ?_);have G := G.trans a20;have hA := hA.updD a20 dA;have hb_12 := hb_12.upd a20 nf__12.symm;have hB := hB.updD a20 d_hB_bf
      have hbf : Has w20 bf (frC na fa nc fc A eB) _ := hbf
      refine RL.nil (RC.back (RC.seq (RC.region rfl ?_)));refine RL.mvS rfl ?_;refine RL.eS (.bin rfl rfl rfl) ?_;refine RL.nil (RC.back ?_);refine RC.cond_dec rfl (fun h21 => ?_) (fun h21 => ?_)
      ·
        have he := h21
        refine RC.seq (RC.region rfl ?_);refine RL.asS rfl ?_;refine RL.nil (RC.back ?_);refine RC.d1 10 rfl rfl rfl ?_
        obtain ⟨rfl, rfl, hcs⟩ := he1 he
        refine ⟨(A, eB), 0, _, rfl, .inr (.inr ?_), Fo.ft hbf hnc hfc hA hMb, G, fun k hk => .inl (hk.elim (fun e => e ▸ hCb) (hMC k))⟩
        rcases hcs with ⟨h1, h2⟩ | ⟨h1, h2, h3⟩
        · exact .inr ⟨hbad, h1, by rw [h2], rfl⟩
        · exact .inl ⟨hbad, h1, h2, by rw [h3], rfl⟩
      ·
        have he : eB = 0 := Decidable.not_not.1 h21
        refine RC.skip (RC.back (RC.seq (RC.region rfl ?_)));refine RL.mvS rfl ?_;refine RL.eS (.loadR ([.slice nb B.nodes.length ncb, .slice fb B.free.length fcb]) sh26 rfl hb_12.row rfl) ?_;refine RL.eS (.nilCheck rfl) ?_;refine RL.eS (.field0 fo130_0 rfl) ?_;refine RL.stS sh26 rfl rfl rfl hbf (fun w22 z22 hbf a22 => ?_);have G := G.trans a22;have hB := hB.updD a22 d_hB_bf
        have hbf : Has w22 bf (frC nb fb ncb fcb B eB) _ := hbf
        refine RL.nil (RC.back (RC.seq (RC.region rfl ?_)));refine RL.mvS rfl ?_;refine RL.asS rfl ?_;refine RL.nil (RC.back ?_);refine RC.d1 10 rfl rfl rfl ?_
        obtain ⟨h1, h2, h3, h4⟩ := he0 he
        exact ⟨(B, eB), rB, _, rfl, .inr (.inl ⟨hbad, h1, h2, by rw [he, h3], h4⟩), Fo.ft hbf hnB hfB hB (fun e => d_hB_bf _ e rfl), G, fun k hk => hk.elim (fun e => .inl (e ▸ hCb)) (fun e => e.elim (fun e => .inl (hMC k e)) (fun e => .inr (Nat.le_trans szGM e.1)))⟩
section
variable {A0 : Ar} {s s1 s2 : St} {a b r1 r2 r3 key v : Int} {it jt : It} {L R L1 R1 : List It}
theorem split_lt (hE : Ext A0 s.1) (h2 : IsT A0 a L) (hp : ∀ y ∈ L ++ R, beforeK it.k y.k = true) (hs : Srt (L ++ it :: R)) (q : it.k < key) (hl : (L ++ it :: R).length ≤ 1000)
    (hg : Gs R.length s s1) (hi : s1.2 = 0 → IsT s1.1 r1 (ltL key R) ∧ IsT s1.1 r2 (geL key R)) (hm : Mk s1 it.k it.v a r1 s2 r3) :
    Gs (L ++ it :: R).length s s2 ∧ (s2.2 = 0 → IsT s2.1 r3 (ltL key (L ++ it :: R)) ∧ IsT s2.1 r2 (geL key (L ++ it :: R))) := by
  rw [List.length_append, List.length_cons] at hl
  have h2' := (hE.trans hg.ext).isT h2
  have g1 := hm.gs hg.ok (fun h => ⟨h2'.right, (hi h).1.right⟩)
  refine ⟨(hg.trans g1).mono (by simp only [List.length_append, List.length_cons]; omega), fun h => ?_⟩
  obtain ⟨i1, i2⟩ := hi (g1.back h)
  have hfl : (ltL key R).length ≤ R.length := List.length_filter_le _ _
  rw [ltL_lt hs q, geL_lt hs q]
  refine ⟨hm.isT hg.ok h h2' i1 (by omega) (fun y hy => hp y ?_) ?_, g1.ext.isT i2⟩
  · rcases List.mem_append.1 hy with hy | hy
    · exact List.mem_append_left _ hy
    · exact List.mem_append_right _ (filter_sub hy)
  · rw [← ltL_lt hs q]; exact hs.sub
theorem split_ge (hE : Ext A0 s.1) (h3 : IsT A0 b R) (hp : ∀ y ∈ L ++ R, beforeK it.k y.k = true) (hs : Srt (L ++ it :: R)) (q : ¬ it.k < key) (hl : (L ++ it :: R).length ≤ 1000)
    (hg : Gs L.length s s1) (hi : s1.2 = 0 → IsT s1.1 r1 (ltL key L) ∧ IsT s1.1 r2 (geL key L)) (hm : Mk s1 it.k it.v r2 b s2 r3) :
    Gs (L ++ it :: R).length s s2 ∧ (s2.2 = 0 → IsT s2.1 r1 (ltL key (L ++ it :: R)) ∧ IsT s2.1 r3 (geL key (L ++ it :: R))) := by
  rw [List.length_append, List.length_cons] at hl
  have h3' := (hE.trans hg.ext).isT h3
  have g1 := hm.gs hg.ok (fun h => ⟨(hi h).2.right, h3'.right⟩)
  refine ⟨(hg.trans g1).mono (by simp only [List.length_append, List.length_cons]; omega), fun h => ?_⟩
  obtain ⟨i1, i2⟩ := hi (g1.back h)
  have hfl : (geL key L).length ≤ L.length := List.length_filter_le _ _
  rw [ltL_ge hs q, geL_ge hs q]
  refine ⟨g1.ext.isT i1, hm.isT hg.ok h i2 h3' (by omega) (fun y hy => hp y ?_) ?_⟩
  · rcases List.mem_append.1 hy with hy | hy
    · exact List.mem_append_left _ (filter_sub hy)
    · exact List.mem_append_right _ hy
  · rw [← geL_ge hs q]; exact hs.sub
def Lt2 (L R : List It) : Prop := ∀ x ∈ L, ∀ y ∈ R, x.k < y.k
theorem srt_app (h1 : Srt L) (h2 : Srt R) (h : Lt2 L R) : Srt (L ++ R) := List.pairwise_append.2 ⟨h1, h2, h⟩
theorem join_before (hE : Ext A0 s.1) (h2 : IsT A0 a L) (hp : ∀ y ∈ L ++ R, beforeK it.k y.k = true) (hs : Srt (L ++ it :: R)) (hq : ∀ y ∈ L1 ++ jt :: R1, beforeK it.k y.k = true) (hs1 : Srt (L1 ++ jt :: R1)) (h12 : Lt2 (L ++ it :: R) (L1 ++ jt :: R1))
    (hl : (L ++ it :: R).length + (L1 ++ jt :: R1).length ≤ 1000) (hg : Gs (R.length + (L1 ++ jt :: R1).length) s s1) (hi : s1.2 = 0 → IsT s1.1 r1 (R ++ (L1 ++ jt :: R1))) (hm : Mk s1 it.k it.v a r1 s2 r3) :
    Gs ((L ++ it :: R).length + (L1 ++ jt :: R1).length) s s2 ∧ (s2.2 = 0 → IsT s2.1 r3 ((L ++ it :: R) ++ (L1 ++ jt :: R1))) := by
  have h2' := (hE.trans hg.ext).isT h2
  have g1 := hm.gs hg.ok (fun h => ⟨h2'.right, (hi h).right⟩)
  refine ⟨(hg.trans g1).mono (by simp only [List.length_append, List.length_cons]; omega), fun h => ?_⟩
  have i1 := hi (g1.back h)
  rw [List.append_assoc, List.cons_append]
  refine hm.isT hg.ok h h2' i1 (by simp only [List.length_append, List.length_cons] at hl ⊢; omega) (fun y hy => ?_) ?_
  · rcases List.mem_append.1 hy with hy | hy
    · exact hp y (List.mem_append_left _ hy)
    · rcases List.mem_append.1 hy with hy | hy
      · exact hp y (List.mem_append_right _ hy)
      · exact hq y hy
  · have := srt_app hs hs1 h12
    rw [List.append_assoc, List.cons_append] at this
    exact this
theorem join_after (hE : Ext A0 s.1) (h3 : IsT A0 b R1) (hp : ∀ y ∈ L1 ++ R1, beforeK jt.k y.k = true) (hs : Srt (L1 ++ jt :: R1)) (hq : ∀ y ∈ L, beforeK jt.k y.k = true) (hs1 : Srt L) (h12 : Lt2 L (L1 ++ jt :: R1))
    (hl : L.length + (L1 ++ jt :: R1).length ≤ 1000) (hg : Gs (L.length + L1.length) s s1) (hi : s1.2 = 0 → IsT s1.1 r1 (L ++ L1)) (hm : Mk s1 jt.k jt.v r1 b s2 r3) :
    Gs (L.length + (L1 ++ jt :: R1).length) s s2 ∧ (s2.2 = 0 → IsT s2.1 r3 (L ++ (L1 ++ jt :: R1))) := by
  have h3' := (hE.trans hg.ext).isT h3
  have g1 := hm.gs hg.ok (fun h => ⟨(hi h).right, h3'.right⟩)
  refine ⟨(hg.trans g1).mono (by simp only [List.length_append, List.length_cons]; omega), fun h => ?_⟩
  have i1 := hi (g1.back h)
  rw [← List.append_assoc]
  refine hm.isT hg.ok h i1 h3' (by simp only [List.length_append, List.length_cons] at hl ⊢; omega) (fun y hy => ?_) ?_
  · rcases List.mem_append.1 hy with hy | hy
    · rcases List.mem_append.1 hy with hy | hy
      · exact hq y hy
      · exact hp y (List.mem_append_left _ hy)
    · exact hp y (List.mem_append_right _ hy)
  · have := srt_app hs1 hs h12
    rw [← List.append_assoc] at this
    exact this
theorem put_new (hA : AOk s.1) (hm : Mk s key v 0 0 s1 r1) : Gs 1 s s1 ∧ (s1.2 = 0 → IsT s1.1 r1 (putL [] key v)) := by
  have h0 : rightR 0 = true := (rightR_iff 0).2 (.inl rfl)
  exact ⟨hm.gs hA (fun _ => ⟨h0, h0⟩), fun h => Mk.isT (it := ⟨key, v⟩) (L := []) (R := []) hm hA h .nil .nil (by simp) (fun y hy => (by simp at hy)) (List.pairwise_singleton _ _)⟩
theorem put_same (hE : Ext A0 s.1) (hA : AOk s.1) (h2 : IsT A0 a L) (h3 : IsT A0 b R) (hp : ∀ y ∈ L ++ R, beforeK it.k y.k = true) (hs : Srt (L ++ it :: R)) (q : it.k = key) (hl : (L ++ it :: R).length ≤ 1000) (hm : Mk s key v a b s1 r1) :
    Gs ((L ++ it :: R).length + 1) s s1 ∧ (s1.2 = 0 → IsT s1.1 r1 (putL (L ++ it :: R) key v)) := by
  have h2' := hE.isT h2
  have h3' := hE.isT h3
  refine ⟨(hm.gs hA (fun _ => ⟨h2'.right, h3'.right⟩)).mono (by omega), fun h => ?_⟩
  rw [putL_eq hs q]
  have hss := hs.split
  refine Mk.isT (it := ⟨key, v⟩) hm hA h h2' h3' (by simp only [List.length_append, List.length_cons] at hl; omega) (fun y hy => by rw [← q]; exact hp y hy) (Srt.join hss.1 hss.2.1 (fun y hy => ?_) (fun y hy => ?_))
  · have := hss.2.2.1 y hy; show y.k < key; omega
  · have := hss.2.2.2 y hy; show key < y.k; omega
theorem put_top (hp : ∀ y ∈ L ++ R, beforeK it.k y.k = true) (hs : Srt (L ++ it :: R)) (q : beforeK key it.k = true) (hl : (L ++ it :: R).length ≤ 1000) (hg : Gs (L ++ it :: R).length s s1)
    (hi : s1.2 = 0 → IsT s1.1 r1 (ltL key (L ++ it :: R)) ∧ IsT s1.1 r2 (geL key (L ++ it :: R))) (hm : Mk s1 key v r1 r2 s2 r3) :
    Gs ((L ++ it :: R).length + 1) s s2 ∧ (s2.2 = 0 → IsT s2.1 r3 (putL (L ++ it :: R) key v)) := by
  have g1 := hm.gs hg.ok (fun h => ⟨(hi h).1.right, (hi h).2.right⟩)
  refine ⟨hg.trans g1, fun h => ?_⟩
  obtain ⟨i1, i2⟩ := hi (g1.back h)
  have hall : ∀ y ∈ L ++ it :: R, beforeK key y.k = true := by
    intro y hy
    rcases List.mem_append.1 hy with hy | hy
    · exact befK_trans q (hp y (List.mem_append_left _ hy))
    · rcases List.mem_cons.1 hy with rfl | hy
      · exact q
      · exact befK_trans q (hp y (List.mem_append_right _ hy))
  have hne : ∀ y ∈ L ++ it :: R, ¬ y.k = key := fun y hy e => by
    have := hall y hy
    rw [e, befK_irr] at this
    cases this
  rw [geL_gt hne] at i2
  have h1 : (ltL key (L ++ it :: R)).length ≤ (L ++ it :: R).length := List.length_filter_le _ _
  have h2 : (gtL key (L ++ it :: R)).length ≤ (L ++ it :: R).length := List.length_filter_le _ _
  refine Mk.isT (it := ⟨key, v⟩) hm hg.ok h i1 i2 (by omega) (fun y hy => hall y ?_) hs.put
  rcases List.mem_append.1 hy with hy | hy
  · exact filter_sub hy
  · exact filter_sub hy
theorem put_left (hE : Ext A0 s.1) (h3 : IsT A0 b R) (hp : ∀ y ∈ L ++ R, beforeK it.k y.k = true) (hs : Srt (L ++ it :: R)) (q : ¬ beforeK key it.k = true) (q2 : key < it.k) (hl : (L ++ it :: R).length ≤ 1000) (hg : Gs (L.length + 1) s s1)
    (hi : s1.2 = 0 → IsT s1.1 r1 (putL L key v)) (hm : Mk s1 it.k it.v r1 b s2 r3) : Gs ((L ++ it :: R).length + 1) s s2 ∧ (s2.2 = 0 → IsT s2.1 r3 (putL (L ++ it :: R) key v)) := by
  have h3' := (hE.trans hg.ext).isT h3
  have g1 := hm.gs hg.ok (fun h => ⟨(hi h).right, h3'.right⟩)
  refine ⟨(hg.trans g1).mono (by simp only [List.length_append, List.length_cons]; omega), fun h => ?_⟩
  have i1 := hi (g1.back h)
  have hpl := putL_len (key := key) (v := v) hs.split.1
  simp only [List.length_append, List.length_cons] at hl
  have hsp : Srt (putL (L ++ it :: R) key v) := hs.put
  rw [putL_lt hs q2] at hsp ⊢
  refine hm.isT hg.ok h i1 h3' (by omega) (fun y hy => ?_) hsp
  rcases List.mem_append.1 hy with hy | hy
  · rcases putL_mem hy with rfl | hy
    · exact (befK_total (show ¬ it.k = key by omega)).resolve_right q
    · exact hp y (List.mem_append_left _ hy)
  · exact hp y (List.mem_append_right _ hy)
theorem put_right (hE : Ext A0 s.1) (h2 : IsT A0 a L) (hp : ∀ y ∈ L ++ R, beforeK it.k y.k = true) (hs : Srt (L ++ it :: R)) (q : ¬ beforeK key it.k = true) (q2 : it.k < key) (hl : (L ++ it :: R).length ≤ 1000) (hg : Gs (R.length + 1) s s1)
    (hi : s1.2 = 0 → IsT s1.1 r1 (putL R key v)) (hm : Mk s1 it.k it.v a r1 s2 r3) : Gs ((L ++ it :: R).length + 1) s s2 ∧ (s2.2 = 0 → IsT s2.1 r3 (putL (L ++ it :: R) key v)) := by
  have h2' := (hE.trans hg.ext).isT h2
  have g1 := hm.gs hg.ok (fun h => ⟨h2'.right, (hi h).right⟩)
  refine ⟨(hg.trans g1).mono (by simp only [List.length_append, List.length_cons]; omega), fun h => ?_⟩
  have i1 := hi (g1.back h)
  have hpl := putL_len (key := key) (v := v) hs.split.2.1
  simp only [List.length_append, List.length_cons] at hl
  have hsp : Srt (putL (L ++ it :: R) key v) := hs.put
  rw [putL_gt hs q2] at hsp ⊢
  refine hm.isT hg.ok h h2' i1 (by omega) (fun y hy => ?_) hsp
  rcases List.mem_append.1 hy with hy | hy
  · exact hp y (List.mem_append_left _ hy)
  · rcases putL_mem hy with rfl | hy
    · exact (befK_total (show ¬ it.k = key by omega)).resolve_right q
    · exact hp y (List.mem_append_right _ hy)
theorem del_left (hE : Ext A0 s.1) (h3 : IsT A0 b R) (hp : ∀ y ∈ L ++ R, beforeK it.k y.k = true) (hs : Srt (L ++ it :: R)) (q2 : key < it.k) (hl : (L ++ it :: R).length ≤ 1000) (hg : Gs (L.length - 1) s s1) (hL : 0 < L.length)
    (hi : s1.2 = 0 → IsT s1.1 r1 (delL L key)) (hm : Mk s1 it.k it.v r1 b s2 r3) : Gs ((L ++ it :: R).length - 1) s s2 ∧ (s2.2 = 0 → IsT s2.1 r3 (delL (L ++ it :: R) key)) := by
  have h3' := (hE.trans hg.ext).isT h3
  have g1 := hm.gs hg.ok (fun h => ⟨(hi h).right, h3'.right⟩)
  refine ⟨(hg.trans g1).mono (by simp only [List.length_append, List.length_cons]; omega), fun h => ?_⟩
  have i1 := hi (g1.back h)
  have hpl : (delL L key).length ≤ L.length := List.length_filter_le _ _
  simp only [List.length_append, List.length_cons] at hl
  have hsp : Srt (delL (L ++ it :: R) key) := hs.sub
  rw [delL_lt hs q2] at hsp ⊢
  refine hm.isT hg.ok h i1 h3' (by omega) (fun y hy => hp y ?_) hsp
  rcases List.mem_append.1 hy with hy | hy
  · exact List.mem_append_left _ (filter_sub hy)
  · exact List.mem_append_right _ hy
theorem del_right (hE : Ext A0 s.1) (h2 : IsT A0 a L) (hp : ∀ y ∈ L ++ R, beforeK it.k y.k = true) (hs : Srt (L ++ it :: R)) (q2 : it.k < key) (hl : (L ++ it :: R).length ≤ 1000) (hg : Gs (R.length - 1) s s1) (hR : 0 < R.length)
    (hi : s1.2 = 0 → IsT s1.1 r1 (delL R key)) (hm : Mk s1 it.k it.v a r1 s2 r3) : Gs ((L ++ it :: R).length - 1) s s2 ∧ (s2.2 = 0 → IsT s2.1 r3 (delL (L ++ it :: R) key)) := by
  have h2' := (hE.trans hg.ext).isT h2
  have g1 := hm.gs hg.ok (fun h => ⟨h2'.right, (hi h).right⟩)
  refine ⟨(hg.trans g1).mono (by simp only [List.length_append, List.length_cons]; omega), fun h => ?_⟩
  have i1 := hi (g1.back h)
  have hpl : (delL R key).length ≤ R.length := List.length_filter_le _ _
  simp only [List.length_append, List.length_cons] at hl
  have hsp : Srt (delL (L ++ it :: R) key) := hs.sub
  rw [delL_gt hs q2] at hsp ⊢
  refine hm.isT hg.ok h h2' i1 (by omega) (fun y hy => hp y ?_) hsp
  rcases List.mem_append.1 hy with hy | hy
  · exact List.mem_append_left _ hy
  · exact List.mem_append_right _ (filter_sub hy)
end
theorem Fo.nok {b : Nat} {s : St} {C : Nat → Prop} {u : World} (h : Fo b s C u) : ∀ x ∈ s.1.nodes, x.ok := by
  obtain ⟨_, na, fa, nc, fc, M, _, _, _, h, _⟩ := h
  exact h.now.nok
theorem u0 : U64 0 := by unfold U64; decide
theorem heap_all {k : Int} {jt : It} {L R : List It} (q : beforeK k jt.k = true) (hp : ∀ y ∈ L ++ R, beforeK jt.k y.k = true) : ∀ y ∈ L ++ jt :: R, beforeK k y.k = true := by
  intro y hy
  rcases List.mem_append.1 hy with hy | hy
  · exact befK_trans q (hp y (List.mem_append_left _ hy))
  · rcases List.mem_cons.1 hy with rfl | hy
    · exact q
    · exact befK_trans q (hp y (List.mem_append_right _ hy))
def FoP (bf n : Nat) (s : St) (C : Nat → Prop) (w : World) (J : St → Value → Prop) (v : Value) (w' : World) : Prop :=
  ∃ s' C', Gs n s s' ∧ J s' v ∧ Ft C' (Fo bf s' C') w' ∧ Agr (· = bf) w w' ∧ Up C w C'
theorem c_fsplit (bf : Nat) (key : Int) (hkey : I64 key) (A0 : Ar) (r : Int) (L : List It) (hL : IsT A0 r L) : ∀ (s : St) (C : Nat → Prop) (w : World), Ext A0 s.1 → AOk s.1 → U64 r → L.length ≤ 1000 → Ft C (Fo bf s C) w →
    FC Tryz.prog 196 [.pointer (some ⟨bf, 0, none⟩), .int .u64 r, .int .i64 key] w (FoP bf L.length s C w fun s' v => ∃ r1 r2, v = .tuple #[.int .u64 r1, .int .u64 r2] ∧ U64 r1 ∧ U64 r2 ∧ (s'.2 = 0 → IsT s'.1 r1 (ltL key L) ∧ IsT s'.1 r2 (geL key L))) := by
  induction hL with
  | nil =>
    intro s C w hE hA hr hl hF
    refine FC.intro Tryz.func196 rfl Tryz.ntmps196 rfl ?_
    have G : Agr (· = bf) w w := Agr.refl _ _
    refine RC.seq (RC.region rfl ?_);refine RL.asS rfl ?_;refine RL.asS rfl ?_;refine RL.nil (RC.back (RC.seq (RC.seq (RC.region rfl ?_))));refine RL.mvS rfl ?_;refine RL.eS (.bin rfl rfl rfl) ?_;refine RL.nil (RC.back ?_);refine RC.cond_dec rfl (fun h1 => ?_) (fun h1 => ?_)
    ·
      refine RC.seq (RC.region rfl ?_);refine RL.asS rfl ?_;refine RL.asS rfl ?_;refine RL.nil (RC.back ?_);refine RC.done (rs := [.tmp 6, .tmp 7]) (vs := [_, _]) rfl rfl ⟨rfl, rfl, trivial⟩ ?_
      exact ⟨s, C, Gs.refl hA, ⟨0, 0, rfl, u0, u0, fun _ => ⟨.nil, .nil⟩⟩, hF, G, Up.refl _ _⟩
    ·
      exact absurd rfl h1
  | @node r g a b it L R t1 t2 t3 t4 t5 ih1 ih2 =>
    intro s C w hE hA hr hl hF
    obtain ⟨x, hx, hxi, hxa, hxb⟩ : ∃ x, getA A0 r = some x ∧ (⟨x.n, x.v⟩ : It) = it ∧ x.k0 = a ∧ x.k1 = b := ⟨_, t1, rfl, rfl, rfl⟩
    have hx := hE.get hx
    have hgx := getN_yes hx
    have hxo := hF.now.nok x (getA_nok hx)
    have hr0 : ¬ r = 0 := fun e => by rw [e, getA_0] at hx; cases hx
    have hCb := hF.now.1
    have hk0 : U64 x.k0 := hxo.kids _ (by simp [Node.kids])
    have hk1 : U64 x.k1 := hxo.kids _ (by simp [Node.kids])
    clear t1
    have hl2 := hl
    rw [List.length_append, List.length_cons] at hl2
    subst hxi hxa hxb
    refine FC.intro Tryz.func196 rfl Tryz.ntmps196 rfl ?_
    have G : Agr (· = bf) w w := Agr.refl _ _
    refine RC.seq (RC.region rfl ?_);refine RL.asS rfl ?_;refine RL.asS rfl ?_;refine RL.nil (RC.back (RC.seq (RC.seq (RC.region rfl ?_))));refine RL.mvS rfl ?_;refine RL.eS (.bin rfl rfl rfl) ?_;refine RL.nil (RC.back ?_);refine RC.cond_dec rfl (fun h1 => ?_) (fun h1 => ?_)
    ·
      exact absurd h1 hr0
    ·
      refine RC.skip (RC.back (RC.seq (RC.region rfl ?_)));refine RL.mvS rfl ?_;refine RL.mvS rfl ?_;refine RL.call rfl ok115 ((hgx ▸ c_fget bf s C r hr w hF)) rfl rfl ?_;rintro _ w2 ⟨rfl, s3⟩;have G := G.trans s3.agr;have hF := hF.sub s3;refine RL.alloc ze140 rfl rfl (fun b_8 w_8 e_8 z_8 hb_8 s_8 => ?_);have d_hF_b_8 := hF.neNew e_8
      have geG_8 := agLe G e_8
      have G := G.trans s_8.agr;have hF := hF.sub s_8
      have n8f : b_8 ≠ bf := fun e => d_hF_b_8 bf hCb e.symm
      refine RL.stS sh140 rfl rfl rfl hb_8 (fun w4 z4 hb_8 a4 => ?_)
      have G := agNew G a4 geG_8
      have hF := hF.updD a4 d_hF_b_8
      have hb_8 : Has w4 b_8 (x.cells) _ := hb_8.now (by kernel_rfl)
      refine RL.nil (RC.back (RC.seq (RC.seq (RC.region rfl ?_))));refine RL.eS (.field0 fo140_2 rfl) ?_;refine RL.eS (.load1 sh2 rfl (hb_8.cell rfl)) ?_;refine RL.mvS rfl ?_;refine RL.eS (.bin rfl rfl rfl) ?_;refine RL.nil (RC.back ?_);refine RC.cond_dec rfl (fun h5 => ?_) (fun h5 => ?_)
      ·
        have q : x.n < key := h5
        refine RC.seq (RC.region rfl ?_);refine RL.mvS rfl ?_;refine RL.eS (.field0 fo140_5 rfl) ?_;refine RL.eS (.indexArr ar138 rfl rfl (by omega)) ?_;refine RL.eS (.load1 sh31 rfl (hb_8.cell rfl)) ?_;refine RL.mvS rfl ?_;refine RL.call rfl ok196 (ih2 s C w4 hE hA hk1 (by omega) hF) rfl rfl ?_;rintro _ w6 ⟨s1, C1, hg, ⟨r1, r2, rfl, hu1, hu2, hi⟩, hF1, ag, up⟩
        have up := up.le G.size
        have G := G.trans ag;have hb_8 := hb_8.upd ag n8f
        have hF := hF1
        refine RL.mvS rfl ?_;refine RL.eS (.extract rfl rfl) ?_;refine RL.eS (.extract rfl rfl) ?_;refine RL.asS rfl ?_;refine RL.asS rfl ?_;refine RL.nil (RC.back (RC.seq (RC.region rfl ?_)));refine RL.mvS rfl ?_;refine RL.eS (.field0 fo140_2 rfl) ?_;refine RL.eS (.load1 sh2 rfl (hb_8.cell rfl)) ?_;refine RL.eS (.field0 fo140_3 rfl) ?_;refine RL.eS (.load1 sh2 rfl (hb_8.cell rfl)) ?_;refine RL.eS (.field0 fo140_5 rfl) ?_;refine RL.eS (.indexArr ar138 rfl rfl (by omega)) ?_;refine RL.eS (.load1 sh31 rfl (hb_8.cell rfl)) ?_;refine RL.mvS rfl ?_;refine RL.call rfl ok194 (c_fmake bf s1 C1 x.n x.v x.k0 r1 hxo.n hxo.v hk0 hu1 w6 hF) rfl rfl ?_;rintro _ w8 ⟨s2, r3, C2, rfl, hm, hF2, ag2, up2⟩
        have up2 := up.trans (up2.le G.size)
        have G := G.trans ag2;have hb_8 := hb_8.upd ag2 n8f
        have hF := hF2
        refine RL.mvS rfl ?_;refine RL.asS rfl ?_;refine RL.asS rfl ?_;refine RL.nil (RC.back ?_);refine RC.done (rs := [.tmp 6, .tmp 7]) (vs := [_, _]) rfl rfl ⟨rfl, rfl, trivial⟩ ?_
        obtain ⟨p1, p2⟩ := split_lt (it := ⟨x.n, x.v⟩) hE t2 t4 t5 q hl hg hi hm
        exact ⟨s2, C2, p1, ⟨r3, r2, rfl, hm.u64, hu2, p2⟩, hF, G, up2⟩
      ·
        have q : ¬ x.n < key := h5
        refine RC.skip (RC.back (RC.seq (RC.region rfl ?_)));refine RL.mvS rfl ?_;refine RL.eS (.field0 fo140_5 rfl) ?_;refine RL.eS (.indexArr ar138 rfl rfl (by omega)) ?_;refine RL.eS (.load1 sh31 rfl (hb_8.cell rfl)) ?_;refine RL.mvS rfl ?_;refine RL.call rfl ok196 (ih1 s C w4 hE hA hk0 (by omega) hF) rfl rfl ?_;rintro _ w10 ⟨s1, C1, hg, ⟨r1, r2, rfl, hu1, hu2, hi⟩, hF1, ag, up⟩
        have up := up.le G.size
        have G := G.trans ag;have hb_8 := hb_8.upd ag n8f
        have hF := hF1
        refine RL.mvS rfl ?_;refine RL.eS (.extract rfl rfl) ?_;refine RL.eS (.extract rfl rfl) ?_;refine RL.asS rfl ?_;refine RL.asS rfl ?_;refine RL.nil (RC.back (RC.seq (RC.region rfl ?_)));refine RL.mvS rfl ?_;refine RL.mvS rfl ?_;refine RL.eS (.field0 fo140_2 rfl) ?_;refine RL.eS (.load1 sh2 rfl (hb_8.cell rfl)) ?_;refine RL.eS (.field0 fo140_3 rfl) ?_;refine RL.eS (.load1 sh2 rfl (hb_8.cell rfl)) ?_;refine RL.mvS rfl ?_;refine RL.eS (.field0 fo140_5 rfl) ?_;refine RL.eS (.indexArr ar138 rfl rfl (by omega)) ?_;refine RL.eS (.load1 sh31 rfl (hb_8.cell rfl)) ?_;refine RL.call rfl ok194 (c_fmake bf s1 C1 x.n x.v r2 x.k1 hxo.n hxo.v hu2 hk1 w10 hF) rfl rfl ?_;rintro _ w12 ⟨s2, r3, C2, rfl, hm, hF2, ag2, up2⟩
        have up2 := up.trans (up2.le G.size)
        have G := G.trans ag2
        have hF := hF2
        refine RL.asS rfl ?_;refine RL.asS rfl ?_;refine RL.nil (RC.back ?_);refine RC.done (rs := [.tmp 6, .tmp 7]) (vs := [_, _]) rfl rfl ⟨rfl, rfl, trivial⟩ ?_
        obtain ⟨p1, p2⟩ := split_ge (it := ⟨x.n, x.v⟩) hE t3 t4 t5 q hl hg hi hm
        exact ⟨s2, C2, p1, ⟨r1, r3, rfl, hu1, hm.u64, p2⟩, hF, G, up2⟩
set_option maxHeartbeats 1000000 in
theorem c_fjoin (bf : Nat) (A0 : Ar) : ∀ (n : Nat) (a b : Int) (L R : List It) (s : St) (C : Nat → Prop) (w : World), L.length + R.length ≤ n → n ≤ 1000 → IsT A0 a L → IsT A0 b R → Lt2 L R → Ext A0 s.1 → AOk s.1 → U64 a → U64 b → Ft C (Fo bf s C) w →
    FC Tryz.prog 197 [.pointer (some ⟨bf, 0, none⟩), .int .u64 a, .int .u64 b] w (FoP bf (L.length + R.length) s C w fun s' v => ∃ r, v = .int .u64 r ∧ U64 r ∧ (s'.2 = 0 → IsT s'.1 r (L ++ R))) := by
  intro n
  induction n with
  | zero =>
    intro a b L R s C w hn _ hL hR _ hE hA hua hub hF
    obtain rfl : L = [] := List.eq_nil_of_length_eq_zero (by omega)
    obtain rfl : R = [] := List.eq_nil_of_length_eq_zero (by omega)
    have ha : a = 0 := Classical.byContradiction fun e => by obtain ⟨_, _, _, _, _, _, h, _⟩ := hL.ne e; simp at h
    refine FC.intro Tryz.func197 rfl Tryz.ntmps197 rfl ?_
    have G : Agr (· = bf) w w := Agr.refl _ _
    refine RC.seq (RC.region rfl ?_);refine RL.asS rfl ?_;refine RL.nil (RC.back (RC.seq (RC.block (RC.seq (RC.region rfl ?_)))));refine RL.mvS rfl ?_;refine RL.eS (.bin rfl rfl rfl) ?_;refine RL.asS rfl ?_;refine RL.nil (RC.back ?_);refine RC.cond_dec rfl (fun h1 => ?_) (fun h1 => ?_)
    ·
      refine RC.seq (RC.region rfl ?_);refine RL.mvS rfl ?_;refine RL.asS rfl ?_;refine RL.nil (RC.back ?_);refine RC.d1 6 rfl rfl rfl ?_
      exact ⟨s, C, Gs.refl hA, ⟨b, rfl, hub, fun _ => hE.isT hR⟩, hF, G, Up.refl _ _⟩
    ·
      exact absurd ha h1
  | succ n ih =>
    intro a b L R s C w hn hn2 hL hR h12 hE hA hua hub hF
    have hCb := hF.now.1
    refine FC.intro Tryz.func197 rfl Tryz.ntmps197 rfl ?_
    have G : Agr (· = bf) w w := Agr.refl _ _
    refine RC.seq (RC.region rfl ?_);refine RL.asS rfl ?_;refine RL.nil (RC.back (RC.seq (RC.block (RC.seq (RC.region rfl ?_)))));refine RL.mvS rfl ?_;refine RL.eS (.bin rfl rfl rfl) ?_;refine RL.asS rfl ?_;refine RL.nil (RC.back ?_);refine RC.cond_dec rfl (fun h1 => ?_) (fun h1 => ?_)
    ·
      have ha : a = 0 := h1
      refine RC.seq (RC.region rfl ?_);refine RL.mvS rfl ?_;refine RL.asS rfl ?_;refine RL.nil (RC.back ?_);refine RC.d1 6 rfl rfl rfl ?_
      rw [ha] at hL
      obtain rfl := hL.zero
      exact ⟨s, C, (Gs.refl hA).mono (Nat.zero_le _), ⟨b, rfl, hub, fun _ => hE.isT hR⟩, hF, G, Up.refl _ _⟩
    ·
      have ha : ¬ a = 0 := h1
      refine RC.seq (RC.region rfl ?_);refine RL.mvS rfl ?_;refine RL.eS (.bin rfl rfl rfl) ?_;refine RL.asS rfl ?_;refine RL.nil (RC.back ?_);refine RC.cond_dec rfl (fun h2 => ?_) (fun h2 => ?_)
      ·
        have hb : b = 0 := h2
        refine RC.seq (RC.region rfl ?_);refine RL.mvS rfl ?_;refine RL.asS rfl ?_;refine RL.nil (RC.back ?_);refine RC.d1 6 rfl rfl rfl ?_
        rw [hb] at hR
        obtain rfl := hR.zero
        exact ⟨s, C, (Gs.refl hA).mono (Nat.zero_le _), ⟨a, rfl, hua, fun _ => by rw [List.append_nil]; exact hE.isT hL⟩, hF, G, Up.refl _ _⟩
      ·
        have hb : ¬ b = 0 := h2
        obtain ⟨g, a1, b1, it, L1, R1, rfl, e1, e2, e3, e4, e5⟩ := hL.ne ha
        obtain ⟨g2, a2, b2, jt, L2, R2, rfl, f1, f2, f3, f4, f5⟩ := hR.ne hb
        obtain ⟨x, hx, hxi, hxa, hxb⟩ : ∃ x, getA A0 a = some x ∧ (⟨x.n, x.v⟩ : It) = it ∧ x.k0 = a1 ∧ x.k1 = b1 := ⟨_, e1, rfl, rfl, rfl⟩
        obtain ⟨y, hy, hyi, hya, hyb⟩ : ∃ x, getA A0 b = some x ∧ (⟨x.n, x.v⟩ : It) = jt ∧ x.k0 = a2 ∧ x.k1 = b2 := ⟨_, f1, rfl, rfl, rfl⟩
        have hx := hE.get hx
        have hy := hE.get hy
        have hgx := getN_yes hx
        have hgy := getN_yes hy
        have hxo := hF.now.nok x (getA_nok hx)
        have hyo := hF.now.nok y (getA_nok hy)
        clear e1 f1
        subst hxi hxa hxb hyi hya hyb
        have hk0 : U64 x.k0 := hxo.kids _ (by simp [Node.kids])
        have hk1 : U64 x.k1 := hxo.kids _ (by simp [Node.kids])
        have hj0 : U64 y.k0 := hyo.kids _ (by simp [Node.kids])
        have hj1 : U64 y.k1 := hyo.kids _ (by simp [Node.kids])
        have hn3 := hn
        simp only [List.length_append, List.length_cons] at hn3
        refine RC.skip (RC.back (RC.seq (RC.region rfl ?_)));refine RL.mvS rfl ?_;refine RL.mvS rfl ?_;refine RL.call rfl ok115 ((hgx ▸ c_fget bf s C a hua w hF)) rfl rfl ?_;rintro _ w3 ⟨rfl, s4⟩;have G := G.trans s4.agr;have hF := hF.sub s4;refine RL.mvS rfl ?_;refine RL.mvS rfl ?_;refine RL.call rfl ok115 ((hgy ▸ c_fget bf s C b hub w3 hF)) rfl rfl ?_;rintro _ w5 ⟨rfl, s6⟩;have G := G.trans s6.agr;have hF := hF.sub s6;refine RL.alloc ze140 rfl rfl (fun b_7 w_7 e_7 z_7 hb_7 s_7 => ?_);have d_hF_b_7 := hF.neNew e_7
        have geG_7 := agLe G e_7
        have G := G.trans s_7.agr;have hF := hF.sub s_7
        have n7f : b_7 ≠ bf := fun e => d_hF_b_7 bf hCb e.symm
        refine RL.alloc ze140 rfl rfl (fun b_8 w_8 e_8 z_8 hb_8 s_8 => ?_);have n_7__8 := hb_7.ne e_8;have d_hF_b_8 := hF.neNew e_8
        have geG_8 := agLe G e_8
        have G := G.trans s_8.agr;have hF := hF.sub s_8;have hb_7 := hb_7.sub s_8
        have n8f : b_8 ≠ bf := fun e => d_hF_b_8 bf hCb e.symm
        refine RL.stS sh140 rfl rfl rfl hb_7 (fun w7 z7 hb_7 a7 => ?_)
        have G := agNew G a7 geG_7
        have hF := hF.updD a7 d_hF_b_7;have hb_8 := hb_8.upd a7 n_7__8.symm
        have hb_7 : Has w7 b_7 (x.cells) _ := hb_7.now (by kernel_rfl)
        refine RL.stS sh140 rfl rfl rfl hb_8 (fun w8 z8 hb_8 a8 => ?_)
        have G := agNew G a8 geG_8
        have hF := hF.updD a8 d_hF_b_8;have hb_7 := hb_7.upd a8 n_7__8
        have hb_8 : Has w8 b_8 (y.cells) _ := hb_8.now (by kernel_rfl)
        refine RL.nil (RC.back (RC.seq (RC.seq (RC.region rfl ?_))));refine RL.eS (.field0 fo140_2 rfl) ?_;refine RL.eS (.load1 sh2 rfl (hb_7.cell rfl)) ?_;refine RL.eS (.field0 fo140_2 rfl) ?_;refine RL.eS (.load1 sh2 rfl (hb_8.cell rfl)) ?_;refine RL.call rfl ok195 (c_before x.n y.n w8) rfl rfl ?_;rintro _ w9 ⟨rfl, s10⟩;have G := G.trans s10.agr;have hF := hF.sub s10;have hb_7 := hb_7.sub s10;have hb_8 := hb_8.sub s10;refine RL.nil (RC.back ?_);refine RC.cond rfl (fun h11 => ?_) (fun h11 => ?_)
        ·
          have q : beforeK x.n y.n = true := h11
          refine RC.seq ?_;refine RC.drawD (fun k => k = bf) [13, 14] w9.heap.size 16 rfl rfl mxo (fun w12 s13 => ?_);have ltD_b_7 := hb_7.lt;have ltD_b_8 := hb_8.lt;have G := G.trans s13.agr;have hF := hF.sub s13;have hb_7 := hb_7.sub s13;have hb_8 := hb_8.sub s13;refine RD.tS 0 rfl (fun w' s' => .move rfl) ?_;refine RD.tS 1 rfl (fun w' s' => .field0 fo140_2 rfl) ?_;refine RD.tS 2 rfl (fun w' s' => .load1 sh2 rfl ((hb_7.step s' (fun e => e.elim (fun e => n7f e) (fun e => Nat.not_le.2 ltD_b_7 e))).cell rfl)) ?_;refine RD.tS 3 rfl (fun w' s' => .field0 fo140_3 rfl) ?_;refine RD.tS 4 rfl (fun w' s' => .load1 sh2 rfl ((hb_7.step s' (fun e => e.elim (fun e => n7f e) (fun e => Nat.not_le.2 ltD_b_7 e))).cell rfl)) ?_;refine RD.tS 5 rfl (fun w' s' => .field0 fo140_5 rfl) ?_;refine RD.tS 6 rfl (fun w' s' => .indexArr ar138 rfl rfl (by omega)) ?_;refine RD.tS 7 rfl (fun w' s' => .load1 sh31 rfl ((hb_7.step s' (fun e => e.elim (fun e => n7f e) (fun e => Nat.not_le.2 ltD_b_7 e))).cell rfl)) ?_;refine RD.tS 8 rfl (fun w' s' => .move rfl) ?_;refine RD.tS 9 rfl (fun w' s' => .field0 fo140_5 rfl) ?_;refine RD.tS 10 rfl (fun w' s' => .indexArr ar138 rfl rfl (by omega)) ?_;refine RD.tS 11 rfl (fun w' s' => .load1 sh31 rfl ((hb_7.step s' (fun e => e.elim (fun e => n7f e) (fun e => Nat.not_le.2 ltD_b_7 e))).cell rfl)) ?_;refine RD.tS 12 rfl (fun w' s' => .move rfl) ?_;refine RD.oneS 13 rfl ?_;refine RL.call rfl ok197 (ih x.k1 b R1 (L2 ++ ⟨y.n, y.v⟩ :: R2) s C w12 (by simp only [List.length_append, List.length_cons]; omega) (by omega) e3 hR (fun z hz => h12 z (List.mem_append_right _ (List.mem_cons_of_mem _ hz))) hE hA hk1 hub hF) rfl rfl ?_;rintro _ w14 ⟨s1, C1, hg, ⟨r1, rfl, hu1, hi⟩, hF1, ag, up⟩
          have up := up.le G.size
          have G := G.trans ag;have hb_8 := hb_8.upd ag n8f
          have hF := hF1
          refine RD.backW rfl (ag.mono fun k _ e => .inl e) ?_;refine RD.oneS 14 rfl ?_;refine RL.call rfl ok194 (c_fmake bf s1 C1 x.n x.v x.k0 r1 hxo.n hxo.v hk0 hu1 w14 hF) rfl rfl ?_;rintro _ w16 ⟨s2, r3, C2, rfl, hm, hF2, ag2, up2⟩
          have up2 := up.trans (up2.le G.size)
          have G := G.trans ag2;have hb_8 := hb_8.upd ag2 n8f
          have hF := hF2
          refine RD.backW rfl (ag2.mono fun k _ e => .inl e) ?_;refine RD.tS 15 rfl (fun w' s' => .assign rfl) ?_;refine RD.done (by kernel_rfl) (RC.back ?_);refine RC.d1 6 rfl rfl rfl ?_
          obtain ⟨p1, p2⟩ := join_before (it := ⟨x.n, x.v⟩) (jt := ⟨y.n, y.v⟩) hE e2 e4 e5 (heap_all (jt := ⟨y.n, y.v⟩) q f4) f5 h12 (by omega) hg hi hm
          exact ⟨s2, C2, p1, ⟨r3, rfl, hm.u64, p2⟩, hF, G, up2⟩
        ·
          have q : beforeK x.n y.n = false := (by simpa using h11)
          refine RC.skip (RC.back (RC.seq ?_));refine RC.drawD (fun k => k = bf) [10, 14] w9.heap.size 16 rfl rfl mxo (fun w18 s19 => ?_);have ltD_b_8 := hb_8.lt;have G := G.trans s19.agr;have hF := hF.sub s19;have hb_8 := hb_8.sub s19;refine RD.tS 0 rfl (fun w' s' => .move rfl) ?_;refine RD.tS 1 rfl (fun w' s' => .field0 fo140_2 rfl) ?_;refine RD.tS 2 rfl (fun w' s' => .load1 sh2 rfl ((hb_8.step s' (fun e => e.elim (fun e => n8f e) (fun e => Nat.not_le.2 ltD_b_8 e))).cell rfl)) ?_;refine RD.tS 3 rfl (fun w' s' => .field0 fo140_3 rfl) ?_;refine RD.tS 4 rfl (fun w' s' => .load1 sh2 rfl ((hb_8.step s' (fun e => e.elim (fun e => n8f e) (fun e => Nat.not_le.2 ltD_b_8 e))).cell rfl)) ?_;refine RD.tS 5 rfl (fun w' s' => .move rfl) ?_;refine RD.tS 6 rfl (fun w' s' => .move rfl) ?_;refine RD.tS 7 rfl (fun w' s' => .field0 fo140_5 rfl) ?_;refine RD.tS 8 rfl (fun w' s' => .indexArr ar138 rfl rfl (by omega)) ?_;refine RD.tS 9 rfl (fun w' s' => .load1 sh31 rfl ((hb_8.step s' (fun e => e.elim (fun e => n8f e) (fun e => Nat.not_le.2 ltD_b_8 e))).cell rfl)) ?_;refine RD.tS 11 rfl (fun w' s' => .field0 fo140_5 rfl) ?_;refine RD.tS 12 rfl (fun w' s' => .indexArr ar138 rfl rfl (by omega)) ?_;refine RD.tS 13 rfl (fun w' s' => .load1 sh31 rfl ((hb_8.step s' (fun e => e.elim (fun e => n8f e) (fun e => Nat.not_le.2 ltD_b_8 e))).cell rfl)) ?_;refine RD.oneS 10 rfl ?_;refine RL.call rfl ok197 (ih a y.k0 (L1 ++ ⟨x.n, x.v⟩ :: R1) L2 s C w18 (by simp only [List.length_append, List.length_cons]; omega) (by omega) hL f2 (fun z hz u hu => h12 z hz u (List.mem_append_left _ hu)) hE hA hua hj0 hF) rfl rfl ?_;rintro _ w20 ⟨s1, C1, hg, ⟨r1, rfl, hu1, hi⟩, hF1, ag, up⟩
          have up := up.le G.size
          have G := G.trans ag
          have hF := hF1
          refine RD.backW rfl (ag.mono fun k _ e => .inl e) ?_;refine RD.oneS 14 rfl ?_;refine RL.call rfl ok194 (c_fmake bf s1 C1 y.n y.v r1 y.k1 hyo.n hyo.v hu1 hj1 w20 hF) rfl rfl ?_;rintro _ w22 ⟨s2, r3, C2, rfl, hm, hF2, ag2, up2⟩
          have up2 := up.trans (up2.le G.size)
          have G := G.trans ag2
          have hF := hF2
          refine RD.backW rfl (ag2.mono fun k _ e => .inl e) ?_;refine RD.tS 15 rfl (fun w' s' => .assign rfl) ?_;refine RD.done (by kernel_rfl) (RC.back ?_);refine RC.d1 6 rfl rfl rfl ?_
          have hxy : x.n < y.n := h12 ⟨x.n, x.v⟩ (by simp) ⟨y.n, y.v⟩ (by simp)
          have q2 : beforeK y.n x.n = true := (befK_total (show ¬ x.n = y.n by omega)).resolve_left (by rw [q]; simp)
          obtain ⟨p1, p2⟩ := join_after (jt := ⟨y.n, y.v⟩) hE f3 f4 f5 (heap_all (jt := ⟨x.n, x.v⟩) q2 e4) e5 h12 (by omega) hg hi hm
          exact ⟨s2, C2, p1, ⟨r3, rfl, hm.u64, p2⟩, hF, G, up2⟩
theorem find_lt {L R : List It} {it : It} {key : Int} (h : Srt (L ++ it :: R)) (q : key < it.k) : (∃ y ∈ L ++ it :: R, y.k = key) ↔ ∃ y ∈ L, y.k = key := by
  constructor
  · rintro ⟨y, hy, e⟩
    rcases List.mem_append.1 hy with hy | hy
    · exact ⟨y, hy, e⟩
    · rcases List.mem_cons.1 hy with rfl | hy
      · omega
      · have := h.split.2.2.2 y hy; omega
  · rintro ⟨y, hy, e⟩
    exact ⟨y, List.mem_append_left _ hy, e⟩
theorem find_gt {L R : List It} {it : It} {key : Int} (h : Srt (L ++ it :: R)) (q : it.k < key) : (∃ y ∈ L ++ it :: R, y.k = key) ↔ ∃ y ∈ R, y.k = key := by
  constructor
  · rintro ⟨y, hy, e⟩
    rcases List.mem_append.1 hy with hy | hy
    · have := h.split.2.2.1 y hy; omega
    · rcases List.mem_cons.1 hy with rfl | hy
      · omega
      · exact ⟨y, hy, e⟩
  · rintro ⟨y, hy, e⟩
    exact ⟨y, List.mem_append_right _ (List.mem_cons_of_mem _ hy), e⟩
def FindP (L : List It) (key : Int) (v : Value) : Prop := (∃ x ∈ L, x.k = key ∧ v = .tuple #[.int .i64 x.v, .bool true]) ∨ (∀ x ∈ L, ¬ x.k = key) ∧ v = .tuple #[.int .i64 0, .bool false]
theorem c_ffind (bf : Nat) (s : St) (C : Nat → Prop) (r key : Int) (L : List It) (hL : IsT s.1 r L) (hr : U64 r) (w : World) (hF : Ft C (Fo bf s C) w) :
  FC Tryz.prog 55 [.pointer (some ⟨bf, 0, none⟩), .int .u64 r, .int .i64 key] w (fun v w' => Sub w w' ∧ FindP L key v) := by
 refine FC.intro Tryz.func55 rfl Tryz.ntmps55 rfl ?_
 have S := Sub.refl w
 refine RC.seq (RC.region rfl ?_);refine RL.asS rfl ?_;refine RL.asS rfl ?_;refine RL.nil (RC.back (RC.seq (RC.block ?_)));refine RC.loop (α := Int × List It) (fun x => [(0, .pointer (some ⟨bf, 0, none⟩)), (1, .int .u64 x.1), (2, .int .i64 key)]) (fun x w1 => (U64 x.1 ∧ IsT s.1 x.1 x.2 ∧ (∀ y ∈ x.2, y ∈ L) ∧ ((∃ y ∈ L, y.k = key) ↔ ∃ y ∈ x.2, y.k = key)) ∧ Sub w w1) (fun x => x.2.length) (r, L) (keep_of (by repeat (first | exact trivial | refine And.intro rfl ?_))) (⟨⟨hr, hL, fun _ h => h, Iff.rfl⟩, S⟩) (fun x w1 hJ => ?_)
 obtain ⟨r, K⟩ := x; obtain ⟨⟨hr, hK, hKL, hKi⟩, S⟩ := hJ; simp only [] at hr hK hKL hKi
 refine RC.seq (RC.seq (RC.region rfl ?_));refine RL.mvS rfl ?_;refine RL.eS (.bin rfl rfl rfl) ?_;refine RL.nil (RC.back ?_);refine RC.cond_dec rfl (fun h2 => ?_) (fun h2 => ?_)
 ·
  have hr0 : ¬ r = 0 := h2
  obtain ⟨g, a1, b1, it, L1, R1, hKe, e1, e2, e3, e4, e5⟩ := hK.ne hr0
  obtain ⟨x, hx, hxi, hxa, hxb⟩ : ∃ x, getA s.1 r = some x ∧ (⟨x.n, x.v⟩ : It) = it ∧ x.k0 = a1 ∧ x.k1 = b1 := ⟨_, e1, rfl, rfl, rfl⟩
  have hgx := getN_yes hx
  have hxo := hF.now.nok x (getA_nok hx)
  rw [← hxi] at hKe e5
  rw [← hxa] at e2
  rw [← hxb] at e3
  have hlen : K.length = L1.length + (R1.length + 1) := (by rw [hKe]; simp)
  refine RC.skip (RC.back (RC.block (RC.seq (RC.region rfl ?_))));refine RL.mvS rfl ?_;refine RL.mvS rfl ?_;refine RL.call rfl ok115 ((hgx ▸ c_fget bf s C r hr w1 (hF.sub S))) rfl rfl ?_;rintro _ w3 ⟨rfl, s4⟩;have S := S.trans s4;refine RL.alloc ze140 rfl rfl (fun b_8 w_8 e_8 z_8 hb_8 s_8 => ?_);have ge_8 := S.le e_8;have S := S.trans s_8;refine RL.stS sh140 rfl rfl rfl hb_8 (fun w5 z5 hb_8 a5 => ?_);have S := S.upd a5 ge_8
  have hb_8 : Has w5 b_8 (x.cells) _ := hb_8.now (by kernel_rfl)
  refine RL.nil (RC.back (RC.block (RC.seq (RC.region rfl ?_))));refine RL.eS (.field0 fo140_2 rfl) ?_;refine RL.eS (.load1 sh2 rfl (hb_8.cell rfl)) ?_;refine RL.mvS rfl ?_;refine RL.eS (.bin rfl rfl rfl) ?_;refine RL.asS rfl ?_;refine RL.nil (RC.back ?_);refine RC.cond_dec rfl (fun h6 => ?_) (fun h6 => ?_)
  ·
   have q := h6
   refine RC.seq (RC.region rfl ?_);refine RL.eS (.field0 fo140_3 rfl) ?_;refine RL.eS (.load1 sh2 rfl (hb_8.cell rfl)) ?_;refine RL.asS rfl ?_;refine RL.asS rfl ?_;refine RL.nil (RC.back ?_);refine RC.done (rs := [.tmp 6, .tmp 7]) (vs := [_, _]) rfl rfl ⟨rfl, rfl, trivial⟩ ?_
   exact ⟨S, .inl ⟨⟨x.n, x.v⟩, hKL _ (by rw [hKe]; simp), q, rfl⟩⟩
  ·
   have q := h6
   refine RC.seq (RC.region rfl ?_);refine RL.mvS rfl ?_;refine RL.eS (.field0 fo140_2 rfl) ?_;refine RL.eS (.load1 sh2 rfl (hb_8.cell rfl)) ?_;refine RL.eS (.bin rfl rfl rfl) ?_;refine RL.asS rfl ?_;refine RL.nil (RC.back ?_);refine RC.cond_dec rfl (fun h7 => ?_) (fun h7 => ?_)
   ·
    have q2 := h7
    refine RC.region rfl ?_;refine RL.eS (.field0 fo140_5 rfl) ?_;refine RL.eS (.indexArr ar138 rfl rfl (by omega)) ?_;refine RL.eS (.load1 sh31 rfl (hb_8.cell rfl)) ?_;refine RL.asS rfl ?_
    exact RL.nil (fun a ka => ⟨(x.k0, L1), ⟨⟨hxo.kids _ (by simp [Node.kids]), e2, fun y hy => hKL y (by rw [hKe]; exact List.mem_append_left _ hy), hKi.trans (by rw [hKe]; exact find_lt e5 q2)⟩, S⟩, by simp only []; omega, ka.keep (keep_of (by repeat (first | exact trivial | refine And.intro rfl ?_)))⟩)
   ·
    have q2 := h7
    refine RC.region rfl ?_;refine RL.eS (.field0 fo140_5 rfl) ?_;refine RL.eS (.indexArr ar138 rfl rfl (by omega)) ?_;refine RL.eS (.load1 sh31 rfl (hb_8.cell rfl)) ?_;refine RL.asS rfl ?_
    exact RL.nil (fun a ka => ⟨(x.k1, R1), ⟨⟨hxo.kids _ (by simp [Node.kids]), e3, fun y hy => hKL y (by rw [hKe]; exact List.mem_append_right _ (List.mem_cons_of_mem _ hy)), hKi.trans (by rw [hKe]; exact find_gt e5 (show x.n < key by omega))⟩, S⟩, by simp only []; omega, ka.keep (keep_of (by repeat (first | exact trivial | refine And.intro rfl ?_)))⟩)
 ·
  have hr0 : r = 0 := Decidable.not_not.1 h2
  rw [hr0] at hK
  have hK0 := hK.zero
  refine RC.exit rfl (RC.back (RC.seq (RC.region rfl ?_)));refine RL.asS rfl ?_;refine RL.asS rfl ?_;refine RL.nil (RC.back ?_);refine RC.done (rs := [.tmp 6, .tmp 7]) (vs := [_, _]) rfl rfl ⟨rfl, rfl, trivial⟩ ?_
  exact ⟨S, .inr ⟨fun y hy e => (by obtain ⟨z, hz, _⟩ := hKi.1 ⟨y, hy, e⟩; rw [hK0] at hz; cases hz), rfl⟩⟩
set_option maxHeartbeats 1000000 in
theorem c_fput (bf : Nat) (key v : Int) (hkey : I64 key) (hv : I64 v) (A0 : Ar) (r : Int) (L : List It) (hL : IsT A0 r L) : ∀ (s : St) (C : Nat → Prop) (w : World), Ext A0 s.1 → AOk s.1 → U64 r → L.length ≤ 1000 → Ft C (Fo bf s C) w →
    FC Tryz.prog 128 [.pointer (some ⟨bf, 0, none⟩), .int .u64 r, .int .i64 key, .int .i64 v] w (FoP bf (L.length + 1) s C w fun s' u => ∃ r', u = .int .u64 r' ∧ U64 r' ∧ (s'.2 = 0 → IsT s'.1 r' (putL L key v))) := by
  induction hL with
  | nil =>
    intro s C w hE hA hr hl hF
    have hCb := hF.now.1
    refine FC.intro Tryz.func128 rfl Tryz.ntmps128 rfl ?_
    have G : Agr (· = bf) w w := Agr.refl _ _
    refine RC.seq (RC.region rfl ?_);refine RL.asS rfl ?_;refine RL.nil (RC.back (RC.seq (RC.region rfl ?_)));refine RL.mvS rfl ?_;refine RL.mvS rfl ?_;refine RL.call rfl ok115 (c_fget bf s C 0 hr w hF) rfl rfl ?_;rintro _ w1 ⟨rfl, s2⟩;have G := G.trans s2.agr;have hF := hF.sub s2;refine RL.alloc ze140 rfl rfl (fun b_9 w_9 e_9 z_9 hb_9 s_9 => ?_);have d_hF_b_9 := hF.neNew e_9
    have geG_9 := agLe G e_9
    have G := G.trans s_9.agr;have hF := hF.sub s_9
    have n9f : b_9 ≠ bf := fun e => d_hF_b_9 bf hCb e.symm
    refine RL.stS sh140 rfl rfl rfl hb_9 (fun w3 z3 hb_9 a3 => ?_)
    have G := agNew G a3 geG_9
    have hF := hF.updD a3 d_hF_b_9
    have hb_9 : Has w3 b_9 ((getN s.1 0).cells) _ := hb_9.now (by kernel_rfl)
    refine RL.nil (RC.back (RC.seq (RC.block (RC.seq (RC.region rfl ?_)))));refine RL.mvS rfl ?_;refine RL.eS (.bin rfl rfl rfl) ?_;refine RL.asS rfl ?_;refine RL.nil (RC.back ?_);refine RC.cond_dec rfl (fun h4 => ?_) (fun h4 => ?_)
    ·
      refine RC.seq (RC.region rfl ?_);refine RL.mvS rfl ?_;refine RL.mvS rfl ?_;refine RL.mvS rfl ?_;refine RL.call rfl ok194 (c_fmake bf s C key v 0 0 hkey hv u0 u0 w3 hF) rfl rfl ?_;rintro _ w5 ⟨s1, r1, C1, rfl, hm, hF1, ag, up⟩
      have up := up.le G.size
      have G := G.trans ag;have hb_9 := hb_9.upd ag n9f
      have hF := hF1
      refine RL.asS rfl ?_;refine RL.nil (RC.back ?_);refine RC.d1 8 rfl rfl rfl ?_
      obtain ⟨p1, p2⟩ := put_new hA hm
      exact ⟨s1, C1, p1.mono (by simp), ⟨r1, rfl, hm.u64, p2⟩, hF, G, up⟩
    ·
      exact absurd rfl h4
  | @node r g a b it L R t1 t2 t3 t4 t5 ih1 ih2 =>
    intro s C w hE hA hr hl hF
    obtain ⟨x, hx, hxi, hxa, hxb⟩ : ∃ x, getA A0 r = some x ∧ (⟨x.n, x.v⟩ : It) = it ∧ x.k0 = a ∧ x.k1 = b := ⟨_, t1, rfl, rfl, rfl⟩
    have hx := hE.get hx
    have hgx := getN_yes hx
    have hxo := hF.now.nok x (getA_nok hx)
    have hr0 : ¬ r = 0 := fun e => by rw [e, getA_0] at hx; cases hx
    have hCb := hF.now.1
    have hk0 : U64 x.k0 := hxo.kids _ (by simp [Node.kids])
    have hk1 : U64 x.k1 := hxo.kids _ (by simp [Node.kids])
    have hLt : IsT A0 r (L ++ it :: R) := .node t1 t2 t3 t4 t5
    clear t1
    have hl2 := hl
    rw [List.length_append, List.length_cons] at hl2
    subst hxi hxa hxb
    refine FC.intro Tryz.func128 rfl Tryz.ntmps128 rfl ?_
    have G : Agr (· = bf) w w := Agr.refl _ _
    refine RC.seq (RC.region rfl ?_);refine RL.asS rfl ?_;refine RL.nil (RC.back (RC.seq (RC.region rfl ?_)));refine RL.mvS rfl ?_;refine RL.mvS rfl ?_;refine RL.call rfl ok115 ((hgx ▸ c_fget bf s C r hr w hF)) rfl rfl ?_;rintro _ w1 ⟨rfl, s2⟩;have G := G.trans s2.agr;have hF := hF.sub s2;refine RL.alloc ze140 rfl rfl (fun b_9 w_9 e_9 z_9 hb_9 s_9 => ?_);have d_hF_b_9 := hF.neNew e_9
    have geG_9 := agLe G e_9
    have G := G.trans s_9.agr;have hF := hF.sub s_9
    have n9f : b_9 ≠ bf := fun e => d_hF_b_9 bf hCb e.symm
    refine RL.stS sh140 rfl rfl rfl hb_9 (fun w3 z3 hb_9 a3 => ?_)
    have G := agNew G a3 geG_9
    have hF := hF.updD a3 d_hF_b_9
    have hb_9 : Has w3 b_9 (x.cells) _ := hb_9.now (by kernel_rfl)
    refine RL.nil (RC.back (RC.seq (RC.block (RC.seq (RC.region rfl ?_)))));refine RL.mvS rfl ?_;refine RL.eS (.bin rfl rfl rfl) ?_;refine RL.asS rfl ?_;refine RL.nil (RC.back ?_);refine RC.cond_dec rfl (fun h4 => ?_) (fun h4 => ?_)
    ·
      exact absurd h4 hr0
    ·
      refine RC.seq (RC.region rfl ?_);refine RL.eS (.field0 fo140_2 rfl) ?_;refine RL.eS (.load1 sh2 rfl (hb_9.cell rfl)) ?_;refine RL.mvS rfl ?_;refine RL.eS (.bin rfl rfl rfl) ?_;refine RL.asS rfl ?_;refine RL.nil (RC.back ?_);refine RC.cond_dec rfl (fun h5 => ?_) (fun h5 => ?_)
      ·
        have q : x.n = key := h5
        refine RC.seq (RC.region rfl ?_);refine RL.mvS rfl ?_;refine RL.mvS rfl ?_;refine RL.mvS rfl ?_;refine RL.eS (.field0 fo140_5 rfl) ?_;refine RL.eS (.indexArr ar138 rfl rfl (by omega)) ?_;refine RL.eS (.load1 sh31 rfl (hb_9.cell rfl)) ?_;refine RL.eS (.field0 fo140_5 rfl) ?_;refine RL.eS (.indexArr ar138 rfl rfl (by omega)) ?_;refine RL.eS (.load1 sh31 rfl (hb_9.cell rfl)) ?_;refine RL.call rfl ok194 (c_fmake bf s C key v x.k0 x.k1 hkey hv hk0 hk1 w3 hF) rfl rfl ?_;rintro _ w6 ⟨s1, r1, C1, rfl, hm, hF1, ag, up⟩
        have up := up.le G.size
        have G := G.trans ag;have hb_9 := hb_9.upd ag n9f
        have hF := hF1
        refine RL.asS rfl ?_;refine RL.nil (RC.back ?_);refine RC.d1 8 rfl rfl rfl ?_
        obtain ⟨p1, p2⟩ := put_same (it := ⟨x.n, x.v⟩) hE hA t2 t3 t4 t5 q hl hm
        exact ⟨s1, C1, p1, ⟨r1, rfl, hm.u64, p2⟩, hF, G, up⟩
      ·
        have q : ¬ x.n = key := h5
        refine RC.seq (RC.region rfl ?_);refine RL.mvS rfl ?_;refine RL.eS (.field0 fo140_2 rfl) ?_;refine RL.eS (.load1 sh2 rfl (hb_9.cell rfl)) ?_;refine RL.call rfl ok195 (c_before key x.n w3) rfl rfl ?_;rintro _ w8 ⟨rfl, s9⟩;have G := G.trans s9.agr;have hF := hF.sub s9;have hb_9 := hb_9.sub s9;refine RL.asS rfl ?_;refine RL.nil (RC.back ?_);refine RC.cond rfl (fun h10 => ?_) (fun h10 => ?_)
        ·
          have q2 : beforeK key x.n = true := h10
          refine RC.seq (RC.region rfl ?_);refine RL.mvS rfl ?_;refine RL.mvS rfl ?_;refine RL.mvS rfl ?_;refine RL.call rfl ok196 (c_fsplit bf key hkey A0 r _ hLt s C w8 hE hA hr hl hF) rfl rfl ?_;rintro _ w11 ⟨s1, C1, hg, ⟨r1, r2, rfl, hu1, hu2, hi⟩, hF1, ag, up⟩
          have up := up.le G.size
          have G := G.trans ag;have hb_9 := hb_9.upd ag n9f
          have hF := hF1
          refine RL.mvS rfl ?_;refine RL.eS (.extract rfl rfl) ?_;refine RL.eS (.extract rfl rfl) ?_;refine RL.asS rfl ?_;refine RL.asS rfl ?_;refine RL.nil (RC.back (RC.seq (RC.region rfl ?_)));refine RL.mvS rfl ?_;refine RL.mvS rfl ?_;refine RL.mvS rfl ?_;refine RL.mvS rfl ?_;refine RL.mvS rfl ?_;refine RL.call rfl ok194 (c_fmake bf s1 C1 key v r1 r2 hkey hv hu1 hu2 w11 hF) rfl rfl ?_;rintro _ w13 ⟨s2, r3, C2, rfl, hm, hF2, ag2, up2⟩
          have up2 := up.trans (up2.le G.size)
          have G := G.trans ag2;have hb_9 := hb_9.upd ag2 n9f
          have hF := hF2
          refine RL.asS rfl ?_;refine RL.nil (RC.back ?_);refine RC.d1 8 rfl rfl rfl ?_
          obtain ⟨p1, p2⟩ := put_top (it := ⟨x.n, x.v⟩) t4 t5 q2 hl hg hi hm
          exact ⟨s2, C2, p1, ⟨r3, rfl, hm.u64, p2⟩, hF, G, up2⟩
        ·
          have q2 : ¬ beforeK key x.n = true := (by simpa using h10)
          refine RC.seq (RC.region rfl ?_);refine RL.mvS rfl ?_;refine RL.eS (.field0 fo140_2 rfl) ?_;refine RL.eS (.load1 sh2 rfl (hb_9.cell rfl)) ?_;refine RL.eS (.bin rfl rfl rfl) ?_;refine RL.asS rfl ?_;refine RL.nil (RC.back ?_);refine RC.cond_dec rfl (fun h15 => ?_) (fun h15 => ?_)
          ·
            have q3 : key < x.n := h15
            refine RC.seq ?_;refine RC.drawD (fun k => k = bf) [11, 15] w8.heap.size 17 rfl rfl mxo (fun w16 s17 => ?_);have ltD_b_9 := hb_9.lt;have G := G.trans s17.agr;have hF := hF.sub s17;have hb_9 := hb_9.sub s17;refine RD.tS 0 rfl (fun w' s' => .move rfl) ?_;refine RD.tS 1 rfl (fun w' s' => .field0 fo140_2 rfl) ?_;refine RD.tS 2 rfl (fun w' s' => .load1 sh2 rfl ((hb_9.step s' (fun e => e.elim (fun e => n9f e) (fun e => Nat.not_le.2 ltD_b_9 e))).cell rfl)) ?_;refine RD.tS 3 rfl (fun w' s' => .field0 fo140_3 rfl) ?_;refine RD.tS 4 rfl (fun w' s' => .load1 sh2 rfl ((hb_9.step s' (fun e => e.elim (fun e => n9f e) (fun e => Nat.not_le.2 ltD_b_9 e))).cell rfl)) ?_;refine RD.tS 5 rfl (fun w' s' => .move rfl) ?_;refine RD.tS 6 rfl (fun w' s' => .field0 fo140_5 rfl) ?_;refine RD.tS 7 rfl (fun w' s' => .indexArr ar138 rfl rfl (by omega)) ?_;refine RD.tS 8 rfl (fun w' s' => .load1 sh31 rfl ((hb_9.step s' (fun e => e.elim (fun e => n9f e) (fun e => Nat.not_le.2 ltD_b_9 e))).cell rfl)) ?_;refine RD.tS 9 rfl (fun w' s' => .move rfl) ?_;refine RD.tS 10 rfl (fun w' s' => .move rfl) ?_;refine RD.tS 12 rfl (fun w' s' => .field0 fo140_5 rfl) ?_;refine RD.tS 13 rfl (fun w' s' => .indexArr ar138 rfl rfl (by omega)) ?_;refine RD.tS 14 rfl (fun w' s' => .load1 sh31 rfl ((hb_9.step s' (fun e => e.elim (fun e => n9f e) (fun e => Nat.not_le.2 ltD_b_9 e))).cell rfl)) ?_;refine RD.oneS 11 rfl ?_;refine RL.call rfl ok128 (ih1 s C w16 hE hA hk0 (by omega) hF) rfl rfl ?_;rintro _ w18 ⟨s1, C1, hg, ⟨r1, rfl, hu1, hi⟩, hF1, ag, up⟩
            have up := up.le G.size
            have G := G.trans ag;have hb_9 := hb_9.upd ag n9f
            have hF := hF1
            refine RD.backW rfl (ag.mono fun k _ e => .inl e) ?_;refine RD.oneS 15 rfl ?_;refine RL.call rfl ok194 (c_fmake bf s1 C1 x.n x.v r1 x.k1 hxo.n hxo.v hu1 hk1 w18 hF) rfl rfl ?_;rintro _ w20 ⟨s2, r3, C2, rfl, hm, hF2, ag2, up2⟩
            have up2 := up.trans (up2.le G.size)
            have G := G.trans ag2;have hb_9 := hb_9.upd ag2 n9f
            have hF := hF2
            refine RD.backW rfl (ag2.mono fun k _ e => .inl e) ?_;refine RD.tS 16 rfl (fun w' s' => .assign rfl) ?_;refine RD.done (by kernel_rfl) (RC.back ?_);refine RC.d1 8 rfl rfl rfl ?_
            obtain ⟨p1, p2⟩ := put_left (it := ⟨x.n, x.v⟩) hE t3 t4 t5 q2 q3 hl hg hi hm
            exact ⟨s2, C2, p1, ⟨r3, rfl, hm.u64, p2⟩, hF, G, up2⟩
          ·
            have q3 : x.n < key := (by have := h15; omega)
            refine RC.skip (RC.back (RC.seq ?_));refine RC.drawD (fun k => k = bf) [14, 15] w8.heap.size 17 rfl rfl mxo (fun w22 s23 => ?_);have ltD_b_9 := hb_9.lt;have G := G.trans s23.agr;have hF := hF.sub s23;have hb_9 := hb_9.sub s23;refine RD.tS 0 rfl (fun w' s' => .move rfl) ?_;refine RD.tS 1 rfl (fun w' s' => .field0 fo140_2 rfl) ?_;refine RD.tS 2 rfl (fun w' s' => .load1 sh2 rfl ((hb_9.step s' (fun e => e.elim (fun e => n9f e) (fun e => Nat.not_le.2 ltD_b_9 e))).cell rfl)) ?_;refine RD.tS 3 rfl (fun w' s' => .field0 fo140_3 rfl) ?_;refine RD.tS 4 rfl (fun w' s' => .load1 sh2 rfl ((hb_9.step s' (fun e => e.elim (fun e => n9f e) (fun e => Nat.not_le.2 ltD_b_9 e))).cell rfl)) ?_;refine RD.tS 5 rfl (fun w' s' => .field0 fo140_5 rfl) ?_;refine RD.tS 6 rfl (fun w' s' => .indexArr ar138 rfl rfl (by omega)) ?_;refine RD.tS 7 rfl (fun w' s' => .load1 sh31 rfl ((hb_9.step s' (fun e => e.elim (fun e => n9f e) (fun e => Nat.not_le.2 ltD_b_9 e))).cell rfl)) ?_;refine RD.tS 8 rfl (fun w' s' => .move rfl) ?_;refine RD.tS 9 rfl (fun w' s' => .field0 fo140_5 rfl) ?_;refine RD.tS 10 rfl (fun w' s' => .indexArr ar138 rfl rfl (by omega)) ?_;refine RD.tS 11 rfl (fun w' s' => .load1 sh31 rfl ((hb_9.step s' (fun e => e.elim (fun e => n9f e) (fun e => Nat.not_le.2 ltD_b_9 e))).cell rfl)) ?_;refine RD.tS 12 rfl (fun w' s' => .move rfl) ?_;refine RD.tS 13 rfl (fun w' s' => .move rfl) ?_;refine RD.oneS 14 rfl ?_;refine RL.call rfl ok128 (ih2 s C w22 hE hA hk1 (by omega) hF) rfl rfl ?_;rintro _ w24 ⟨s1, C1, hg, ⟨r1, rfl, hu1, hi⟩, hF1, ag, up⟩
            have up := up.le G.size
            have G := G.trans ag
            have hF := hF1
            refine RD.backW rfl (ag.mono fun k _ e => .inl e) ?_;refine RD.oneS 15 rfl ?_;refine RL.call rfl ok194 (c_fmake bf s1 C1 x.n x.v x.k0 r1 hxo.n hxo.v hk0 hu1 w24 hF) rfl rfl ?_;rintro _ w26 ⟨s2, r3, C2, rfl, hm, hF2, ag2, up2⟩
            have up2 := up.trans (up2.le G.size)
            have G := G.trans ag2
            have hF := hF2
            refine RD.backW rfl (ag2.mono fun k _ e => .inl e) ?_;refine RD.tS 16 rfl (fun w' s' => .assign rfl) ?_;refine RD.done (by kernel_rfl) (RC.back ?_);refine RC.d1 8 rfl rfl rfl ?_
            obtain ⟨p1, p2⟩ := put_right (it := ⟨x.n, x.v⟩) hE t2 t4 t5 q2 q3 hl hg hi hm
            exact ⟨s2, C2, p1, ⟨r3, rfl, hm.u64, p2⟩, hF, G, up2⟩
set_option maxHeartbeats 1000000 in
theorem c_fdel (bf : Nat) (key : Int) (hkey : I64 key) (A0 : Ar) (r : Int) (L : List It) (hL : IsT A0 r L) : ∀ (s : St) (C : Nat → Prop) (w : World), Ext A0 s.1 → AOk s.1 → U64 r → L.length ≤ 1000 → (∃ y ∈ L, y.k = key) → Ft C (Fo bf s C) w →
    FC Tryz.prog 130 [.pointer (some ⟨bf, 0, none⟩), .int .u64 r, .int .i64 key] w (FoP bf (L.length - 1) s C w fun s' u => ∃ r', u = .int .u64 r' ∧ U64 r' ∧ (s'.2 = 0 → IsT s'.1 r' (delL L key))) := by
  induction hL with
  | nil => intro s C w hE hA hr hl hk; obtain ⟨y, hy, _⟩ := hk; cases hy
  | @node r g a b it L R t1 t2 t3 t4 t5 ih1 ih2 =>
    intro s C w hE hA hr hl hk hF
    obtain ⟨x, hx, hxi, hxa, hxb⟩ : ∃ x, getA A0 r = some x ∧ (⟨x.n, x.v⟩ : It) = it ∧ x.k0 = a ∧ x.k1 = b := ⟨_, t1, rfl, rfl, rfl⟩
    have hx := hE.get hx
    have hgx := getN_yes hx
    have hxo := hF.now.nok x (getA_nok hx)
    have hCb := hF.now.1
    have hk0 : U64 x.k0 := hxo.kids _ (by simp [Node.kids])
    have hk1 : U64 x.k1 := hxo.kids _ (by simp [Node.kids])
    clear t1
    have hl2 := hl
    rw [List.length_append, List.length_cons] at hl2
    subst hxi hxa hxb
    have h12 : Lt2 L R := fun y hy z hz => by have := t5.split.2.2.1 y hy; have := t5.split.2.2.2 z hz; omega
    refine FC.intro Tryz.func130 rfl Tryz.ntmps130 rfl ?_
    have G : Agr (· = bf) w w := Agr.refl _ _
    refine RC.seq (RC.region rfl ?_);refine RL.asS rfl ?_;refine RL.nil (RC.back (RC.seq (RC.region rfl ?_)));refine RL.mvS rfl ?_;refine RL.mvS rfl ?_;refine RL.call rfl ok115 ((hgx ▸ c_fget bf s C r hr w hF)) rfl rfl ?_;rintro _ w1 ⟨rfl, s2⟩;have G := G.trans s2.agr;have hF := hF.sub s2;refine RL.alloc ze140 rfl rfl (fun b_7 w_7 e_7 z_7 hb_7 s_7 => ?_);have d_hF_b_7 := hF.neNew e_7
    have geG_7 := agLe G e_7
    have G := G.trans s_7.agr;have hF := hF.sub s_7
    have n7f : b_7 ≠ bf := fun e => d_hF_b_7 bf hCb e.symm
    refine RL.stS sh140 rfl rfl rfl hb_7 (fun w3 z3 hb_7 a3 => ?_)
    have G := agNew G a3 geG_7
    have hF := hF.updD a3 d_hF_b_7
    have hb_7 : Has w3 b_7 (x.cells) _ := hb_7.now (by kernel_rfl)
    refine RL.nil (RC.back (RC.seq (RC.block (RC.seq (RC.region rfl ?_)))));refine RL.eS (.field0 fo140_2 rfl) ?_;refine RL.eS (.load1 sh2 rfl (hb_7.cell rfl)) ?_;refine RL.mvS rfl ?_;refine RL.eS (.bin rfl rfl rfl) ?_;refine RL.asS rfl ?_;refine RL.nil (RC.back ?_);refine RC.cond_dec rfl (fun h4 => ?_) (fun h4 => ?_)
    ·
      have q : x.n = key := h4
      refine RC.seq (RC.region rfl ?_);refine RL.mvS rfl ?_;refine RL.eS (.field0 fo140_5 rfl) ?_;refine RL.eS (.indexArr ar138 rfl rfl (by omega)) ?_;refine RL.eS (.load1 sh31 rfl (hb_7.cell rfl)) ?_;refine RL.eS (.field0 fo140_5 rfl) ?_;refine RL.eS (.indexArr ar138 rfl rfl (by omega)) ?_;refine RL.eS (.load1 sh31 rfl (hb_7.cell rfl)) ?_;refine RL.call rfl ok197 (c_fjoin bf A0 (L.length + R.length) x.k0 x.k1 L R s C w3 (Nat.le_refl _) (by omega) t2 t3 h12 hE hA hk0 hk1 hF) rfl rfl ?_;rintro _ w5 ⟨s1, C1, hg, ⟨r1, rfl, hu1, hi⟩, hF1, ag, up⟩
      have up := up.le G.size
      have G := G.trans ag;have hb_7 := hb_7.upd ag n7f
      have hF := hF1
      refine RL.asS rfl ?_;refine RL.nil (RC.back ?_);refine RC.d1 6 rfl rfl rfl ?_
      exact ⟨s1, C1, hg.mono (by simp only [List.length_append, List.length_cons]; omega), ⟨r1, rfl, hu1, fun h => by rw [delL_eq t5 q]; exact hi h⟩, hF, G, up⟩
    ·
      have q : ¬ x.n = key := h4
      refine RC.seq (RC.region rfl ?_);refine RL.mvS rfl ?_;refine RL.eS (.field0 fo140_2 rfl) ?_;refine RL.eS (.load1 sh2 rfl (hb_7.cell rfl)) ?_;refine RL.eS (.bin rfl rfl rfl) ?_;refine RL.asS rfl ?_;refine RL.nil (RC.back ?_);refine RC.cond_dec rfl (fun h7 => ?_) (fun h7 => ?_)
      ·
        have q3 : key < x.n := h7
        obtain ⟨y, hy, hyk⟩ := (find_lt t5 q3).1 hk
        have hL0 : 0 < L.length := List.length_pos_of_mem hy
        refine RC.seq ?_;refine RC.drawD (fun k => k = bf) [10, 14] w3.heap.size 16 rfl rfl mxo (fun w8 s9 => ?_);have ltD_b_7 := hb_7.lt;have G := G.trans s9.agr;have hF := hF.sub s9;have hb_7 := hb_7.sub s9;refine RD.tS 0 rfl (fun w' s' => .move rfl) ?_;refine RD.tS 1 rfl (fun w' s' => .field0 fo140_2 rfl) ?_;refine RD.tS 2 rfl (fun w' s' => .load1 sh2 rfl ((hb_7.step s' (fun e => e.elim (fun e => n7f e) (fun e => Nat.not_le.2 ltD_b_7 e))).cell rfl)) ?_;refine RD.tS 3 rfl (fun w' s' => .field0 fo140_3 rfl) ?_;refine RD.tS 4 rfl (fun w' s' => .load1 sh2 rfl ((hb_7.step s' (fun e => e.elim (fun e => n7f e) (fun e => Nat.not_le.2 ltD_b_7 e))).cell rfl)) ?_;refine RD.tS 5 rfl (fun w' s' => .move rfl) ?_;refine RD.tS 6 rfl (fun w' s' => .field0 fo140_5 rfl) ?_;refine RD.tS 7 rfl (fun w' s' => .indexArr ar138 rfl rfl (by omega)) ?_;refine RD.tS 8 rfl (fun w' s' => .load1 sh31 rfl ((hb_7.step s' (fun e => e.elim (fun e => n7f e) (fun e => Nat.not_le.2 ltD_b_7 e))).cell rfl)) ?_;refine RD.tS 9 rfl (fun w' s' => .move rfl) ?_;refine RD.tS 11 rfl (fun w' s' => .field0 fo140_5 rfl) ?_;refine RD.tS 12 rfl (fun w' s' => .indexArr ar138 rfl rfl (by omega)) ?_;refine RD.tS 13 rfl (fun w' s' => .load1 sh31 rfl ((hb_7.step s' (fun e => e.elim (fun e => n7f e) (fun e => Nat.not_le.2 ltD_b_7 e))).cell rfl)) ?_;refine RD.oneS 10 rfl ?_;refine RL.call rfl ok130 (ih1 s C w8 hE hA hk0 (by omega) ⟨y, hy, hyk⟩ hF) rfl rfl ?_;rintro _ w10 ⟨s1, C1, hg, ⟨r1, rfl, hu1, hi⟩, hF1, ag, up⟩
        have up := up.le G.size
        have G := G.trans ag;have hb_7 := hb_7.upd ag n7f
        have hF := hF1
        refine RD.backW rfl (ag.mono fun k _ e => .inl e) ?_;refine RD.oneS 14 rfl ?_;refine RL.call rfl ok194 (c_fmake bf s1 C1 x.n x.v r1 x.k1 hxo.n hxo.v hu1 hk1 w10 hF) rfl rfl ?_;rintro _ w12 ⟨s2, r3, C2, rfl, hm, hF2, ag2, up2⟩
        have up2 := up.trans (up2.le G.size)
        have G := G.trans ag2;have hb_7 := hb_7.upd ag2 n7f
        have hF := hF2
        refine RD.backW rfl (ag2.mono fun k _ e => .inl e) ?_;refine RD.tS 15 rfl (fun w' s' => .assign rfl) ?_;refine RD.done (by kernel_rfl) (RC.back ?_);refine RC.d1 6 rfl rfl rfl ?_
        obtain ⟨p1, p2⟩ := del_left (it := ⟨x.n, x.v⟩) hE t3 t4 t5 q3 hl hg hL0 hi hm
        exact ⟨s2, C2, p1, ⟨r3, rfl, hm.u64, p2⟩, hF, G, up2⟩
      ·
        have q3 : x.n < key := (by have := h7; omega)
        obtain ⟨y, hy, hyk⟩ := (find_gt t5 q3).1 hk
        have hR0 : 0 < R.length := List.length_pos_of_mem hy
        refine RC.skip (RC.back (RC.seq ?_));refine RC.drawD (fun k => k = bf) [13, 14] w3.heap.size 16 rfl rfl mxo (fun w14 s15 => ?_);have ltD_b_7 := hb_7.lt;have G := G.trans s15.agr;have hF := hF.sub s15;have hb_7 := hb_7.sub s15;refine RD.tS 0 rfl (fun w' s' => .move rfl) ?_;refine RD.tS 1 rfl (fun w' s' => .field0 fo140_2 rfl) ?_;refine RD.tS 2 rfl (fun w' s' => .load1 sh2 rfl ((hb_7.step s' (fun e => e.elim (fun e => n7f e) (fun e => Nat.not_le.2 ltD_b_7 e))).cell rfl)) ?_;refine RD.tS 3 rfl (fun w' s' => .field0 fo140_3 rfl) ?_;refine RD.tS 4 rfl (fun w' s' => .load1 sh2 rfl ((hb_7.step s' (fun e => e.elim (fun e => n7f e) (fun e => Nat.not_le.2 ltD_b_7 e))).cell rfl)) ?_;refine RD.tS 5 rfl (fun w' s' => .field0 fo140_5 rfl) ?_;refine RD.tS 6 rfl (fun w' s' => .indexArr ar138 rfl rfl (by omega)) ?_;refine RD.tS 7 rfl (fun w' s' => .load1 sh31 rfl ((hb_7.step s' (fun e => e.elim (fun e => n7f e) (fun e => Nat.not_le.2 ltD_b_7 e))).cell rfl)) ?_;refine RD.tS 8 rfl (fun w' s' => .move rfl) ?_;refine RD.tS 9 rfl (fun w' s' => .field0 fo140_5 rfl) ?_;refine RD.tS 10 rfl (fun w' s' => .indexArr ar138 rfl rfl (by omega)) ?_;refine RD.tS 11 rfl (fun w' s' => .load1 sh31 rfl ((hb_7.step s' (fun e => e.elim (fun e => n7f e) (fun e => Nat.not_le.2 ltD_b_7 e))).cell rfl)) ?_;refine RD.tS 12 rfl (fun w' s' => .move rfl) ?_;refine RD.oneS 13 rfl ?_;refine RL.call rfl ok130 (ih2 s C w14 hE hA hk1 (by omega) ⟨y, hy, hyk⟩ hF) rfl rfl ?_;rintro _ w16 ⟨s1, C1, hg, ⟨r1, rfl, hu1, hi⟩, hF1, ag, up⟩
        have up := up.le G.size
        have G := G.trans ag
        have hF := hF1
        refine RD.backW rfl (ag.mono fun k _ e => .inl e) ?_;refine RD.oneS 14 rfl ?_;refine RL.call rfl ok194 (c_fmake bf s1 C1 x.n x.v x.k0 r1 hxo.n hxo.v hk0 hu1 w16 hF) rfl rfl ?_;rintro _ w18 ⟨s2, r3, C2, rfl, hm, hF2, ag2, up2⟩
        have up2 := up.trans (up2.le G.size)
        have G := G.trans ag2
        have hF := hF2
        refine RD.backW rfl (ag2.mono fun k _ e => .inl e) ?_;refine RD.tS 15 rfl (fun w' s' => .assign rfl) ?_;refine RD.done (by kernel_rfl) (RC.back ?_);refine RC.d1 6 rfl rfl rfl ?_
        obtain ⟨p1, p2⟩ := del_right (it := ⟨x.n, x.v⟩) hE t2 t4 t5 q3 hl hg hR0 hi hm
        exact ⟨s2, C2, p1, ⟨r3, rfl, hm.u64, p2⟩, hF, G, up2⟩
def CallP (A : Ar) (l : List Int) (J : St → Int → Int → World → Prop) (D : Nat → Prop) (w w' : World) (B : Ar) (r e : Int) : Prop :=
  (allMaps A l = false ∧ e = 1 ∧ B = ar0 ∧ r = 0 ∧ Sub w w') ∨ allMaps A l = true ∧ ∃ s' r0 e0, Ft D (J s' r0 e0) w' ∧ e = (if e0 = 0 then s'.2 else e0) ∧ (¬ e = 0 → B = ar0 ∧ r = 0) ∧ (e = 0 → B = s'.1 ∧ r = r0)
def ArP (M : Nat → Prop) (w w' : World) (J : Ar → Int → Int → Prop) (v : Value) : Prop :=
  ∃ na fa nc fc B r e M', v = .tuple #[arV na fa nc fc B, .int .u64 r, .int .i64 e] ∧ U64 r ∧ B.nodes.length ≤ nc ∧ B.free.length ≤ fc ∧ Ft M' (fun u => ArR u na fa B) w' ∧ Up M w M' ∧ J B r e
set_option maxHeartbeats 1000000 in
theorem c_tcall (f : FuncId) (hf : calleeOK Tryz.prog f = true) (cs : List Value) (A : Ar) (na fa : Option Addr) (nc fc : Nat) (hnc : A.nodes.length ≤ nc) (hfc : A.free.length ≤ fc) (l : List Int) (pa : Option Addr) (m pc : Nat) (hm : m = l.length) (hl : l.length ≤ 10000) (hli : ∀ x ∈ l, U64 x)
  (D M : Nat → Prop) (J : St → Int → Int → World → Prop) (w : World) (hA : Ft M (fun u => ArR u na fa A) w) (hP : Sl w pa 1 (l.map fun x => [u6 x])) (hD : ∀ k, D k → k < w.heap.size)
  (hT : allMaps A l = true → ∀ (bf : Nat) (C : Nat → Prop) (w1 : World), Sub w w1 → w.heap.size ≤ bf → Ft C (Fo bf (A, 0) C) w1 → (∀ k, C k → k = bf ∨ M k) →
   FC Tryz.prog f ([.pointer (some ⟨bf, 0, none⟩)] ++ cs) w1 (fun v w2 => ∃ s' r e C', v = .tuple #[.int .u64 r, .int .i64 e] ∧ U64 r ∧ Ft C' (Fo bf s' C') w2 ∧ Agr (fun k => k = bf ∨ D k) w1 w2 ∧ Up C w1 C' ∧ Ft D (J s' r e) w2)) :
  FC Tryz.prog 126 [arV na fa nc fc A, .slice pa m pc, .func (.func f) #[] cs.toArray] w (fun v w' => Agr D w w' ∧ ArP M w w' (CallP A l J D w w') v) := by
 subst hm
 refine FC.intro Tryz.func126 rfl Tryz.ntmps126 rfl ?_
 have S := Sub.refl w
 have G : Agr D w w := Agr.refl _ _
 refine RC.seq (RC.region rfl ?_);refine RL.box rfl rfl rfl (fun b_3 w_3 e_3 z_3 hb_3 s_3 => ?_);have S := S.trans s_3;have G := G.trans s_3.agr;have hA := hA.sub s_3
 have hb_3 : Has w_3 b_3 ([.slice na A.nodes.length nc, .slice fa A.free.length fc]) _ := hb_3
 refine RL.alloc ze26 rfl rfl (fun b_6 w_6 e_6 z_6 hb_6 s_6 => ?_);have ge_6 := S.le e_6;have n_3__6 := hb_3.ne e_6;have d_hA_b_6 := hA.neNew e_6;have S := S.trans s_6
 have geG_6 := agLe G e_6
 have G := G.trans s_6.agr;have hA := hA.sub s_6;have hb_3 := hb_3.sub s_6;refine RL.asS rfl ?_;refine RL.asS rfl ?_;refine RL.nil (RC.back (RC.seq (RC.seq (RC.region rfl ?_))));refine RL.eS (.loadR ([.slice na A.nodes.length nc, .slice fa A.free.length fc]) sh26 rfl hb_3.row rfl) ?_;refine RL.mvS rfl ?_;refine RL.call rfl ok114 (c_tright A na fa nc fc l l.length rfl pa pc hl hli w_6 hA.now (hP.sub S)) rfl rfl ?_;rintro _ w1 ⟨rfl, s2⟩;have S := S.trans s2;have G := G.trans s2.agr;have hA := hA.sub s2;have hb_3 := hb_3.sub s2;have hb_6 := hb_6.sub s2;refine RL.eS (.not rfl) ?_;refine RL.nil (RC.back ?_);refine RC.cond rfl (fun h3 => ?_) (fun h3 => ?_)
 ·
  have hno : allMaps A l = false := (by simpa using h3)
  refine RC.seq (RC.region rfl ?_);refine RL.eS (.buildS ze26 pl26 rfl rfl) ?_;refine RL.stS sh26 rfl rfl rfl hb_6 (fun w4 z4 hb_6 a4 => ?_);have S := S.upd a4 ge_6
  have G := agNew G a4 geG_6
  have hA := hA.updD a4 d_hA_b_6;have hb_3 := hb_3.upd a4 n_3__6
  have hb_6 : Has w4 b_6 ([.slice none 0 0, .slice none 0 0]) _ := hb_6.now (by kernel_rfl)
  refine RL.asS rfl ?_;refine RL.asS rfl ?_;refine RL.nil (RC.back ?_);refine RC.done (rs := [.cell 6 26, .tmp 7, .tmp 8]) (vs := [_, _, _]) rfl rfl ⟨⟨_, rfl, .inr ⟨[.slice none 0 0, .slice none 0 0], sh26, hb_6.row, rfl⟩⟩, rfl, rfl, trivial⟩ ?_
  exact ⟨G, none, none, 0, 0, ar0, 0, 1, fun _ => False, rfl, u0, by decide, by decide, ⟨fun _ h => h.elim, fun _ _ => ⟨Sl.nil _ _ _, Sl.nil _ _ _, by simp [ar0], by simp [ar0]⟩⟩, fun _ h => h.elim, .inl ⟨hno, rfl, rfl, rfl, S⟩⟩
 ·
  have hyes : allMaps A l = true := (by simpa using h3)
  refine RC.skip (RC.back (RC.seq (RC.region rfl ?_)));refine RL.eS (.loadR ([.slice na A.nodes.length nc, .slice fa A.free.length fc]) sh26 rfl hb_3.row rfl) ?_;refine RL.eS (.buildS ze130 pl130 rfl rfl) ?_;refine RL.box rfl rfl rfl (fun b_19 w_19 e_19 z_19 hb_19 s_19 => ?_);have ge_19 := S.le e_19;have n_6__19 := hb_6.ne e_19;have d_hA_b_19 := hA.neNew e_19;have S := S.trans s_19;have G := G.trans s_19.agr;have hA := hA.sub s_19;have hb_6 := hb_6.sub s_19
  have hb_19 : Has w_19 b_19 (frC na fa nc fc A 0) 130 := hb_19
  have hF := Fo.ft (s := (A, 0)) hb_19 hnc hfc hA (fun e => d_hA_b_19 _ e rfl)
  refine RL.asS rfl ?_;refine RL.nil (RC.back (RC.seq (RC.region rfl ?_)));refine RL.mvS rfl ?_;refine RL.mvS rfl ?_;refine RL.callv rfl rfl (us := []) (cs := cs) hf (hT hyes b_19 _ w_19 S ge_19 hF (fun _ h => h)) rfl rfl ?_;rintro _ w5 ⟨s', r, e, C', rfl, hu, hF1, ag, up, hJ⟩
  have hsz := G.size
  have hD6 : ∀ k, D k → k ≠ b_6 := fun k hk e => by have := hD k hk; omega
  have hnC6 : ¬ (b_6 = b_19 ∨ M b_6) := (fun e => e.elim n_6__19 (fun e => d_hA_b_6 _ e rfl))
  have hC6 : ∀ k, C' k → k ≠ b_6 := fun k hk e => up.not hb_6.lt hnC6 (e ▸ hk)
  have hb_6 := hb_6.step ag (fun e => e.elim n_6__19 (fun e => hD6 _ e rfl))
  have G := agNew2 G ag ge_19
  obtain ⟨_, na', fa', nc', fc', M', hb_19, hnc', hfc', hA', hMb', hMC'⟩ := hF1.now
  have hup : Up M w M' := (fun k hk => by rcases up k (hMC' k hk) with (e | e) | e <;> first | exact .inl e | exact .inr (by omega))
  have dA6 : ∀ k, M' k → k ≠ b_6 := fun k hk => hC6 k (hMC' k hk)
  refine RL.mvS rfl ?_;refine RL.eS (.extract rfl rfl) ?_;refine RL.eS (.extract rfl rfl) ?_;refine RL.asS rfl ?_;refine RL.asS rfl ?_;refine RL.nil (RC.back (RC.seq (RC.seq (RC.region rfl ?_))));refine RL.mvS rfl ?_;refine RL.eS (.bin rfl rfl rfl) ?_;refine RL.nil (RC.back ?_);refine RC.cond_dec rfl (fun h7 => ?_) (fun h7 => ?_)
  ·
   have he := h7
   refine RC.region rfl ?_;refine RL.mvS rfl ?_;refine RL.eS (.nilCheck rfl) ?_;refine RL.eS (.field0 fo130_1 rfl) ?_;refine RL.eS (.load1 sh27 rfl (hb_19.cell rfl)) ?_;refine RL.asS rfl ?_;refine RL.nil (RC.back (RC.seq (RC.seq (RC.region rfl ?_))));refine RL.mvS rfl ?_;refine RL.eS (.bin rfl rfl rfl) ?_;refine RL.nil (RC.back ?_);refine RC.cond_dec rfl (fun h8 => ?_) (fun h8 => ?_)
   ·
    have hz := h8
    refine RC.seq (RC.region rfl ?_);refine RL.eS (.buildS ze26 pl26 rfl rfl) ?_;refine RL.mvS rfl ?_;refine RL.stS sh26 rfl rfl rfl hb_6 (fun w9 z9 hb_6 a9 => ?_)
    have G := agNew G a9 geG_6
    have hb_19 := hb_19.upd a9 n_6__19.symm
    have hA' := hA'.updD a9 dA6
    have hJ := hJ.updD a9 hD6
    have hb_6 : Has w9 b_6 ([.slice none 0 0, .slice none 0 0]) _ := hb_6.now (by kernel_rfl)
    refine RL.asS rfl ?_;refine RL.asS rfl ?_;refine RL.nil (RC.back ?_);refine RC.done (rs := [.cell 6 26, .tmp 7, .tmp 8]) (vs := [_, _, _]) rfl rfl ⟨⟨_, rfl, .inr ⟨[.slice none 0 0, .slice none 0 0], sh26, hb_6.row, rfl⟩⟩, rfl, rfl, trivial⟩ ?_
    exact ⟨G, none, none, 0, 0, ar0, 0, s'.2, fun _ => False, rfl, u0, by decide, by decide, ⟨fun _ h => h.elim, fun _ _ => ⟨Sl.nil _ _ _, Sl.nil _ _ _, by simp [ar0], by simp [ar0]⟩⟩, fun _ h => h.elim, .inr ⟨hyes, s', r, e, hJ, by rw [if_pos he], fun _ => ⟨rfl, rfl⟩, fun h => absurd h hz⟩⟩
   ·
    have hz := h8
    refine RC.skip (RC.back (RC.seq (RC.region rfl ?_)));refine RL.mvS rfl ?_;refine RL.eS (.nilCheck rfl) ?_;refine RL.eS (.field0 fo130_0 rfl) ?_;refine RL.eS (.loadR (frA na' fa' nc' fc' s'.1) sh26 rfl (row_pre (xs := frA na' fa' nc' fc' s'.1) (ys := [.int .i64 s'.2]) hb_19) rfl) ?_;refine RL.mvS rfl ?_;refine RL.stS sh26 rfl rfl rfl hb_6 (fun w10 z10 hb_6 a10 => ?_)
    have G := agNew G a10 geG_6
    have hb_19 := hb_19.upd a10 n_6__19.symm
    have hA' := hA'.updD a10 dA6
    have hJ := hJ.updD a10 hD6
    have hb_6 : Has w10 b_6 (frA na' fa' nc' fc' s'.1) _ := hb_6.now (by kernel_rfl)
    refine RL.asS rfl ?_;refine RL.asS rfl ?_;refine RL.nil (RC.back ?_);refine RC.done (rs := [.cell 6 26, .tmp 7, .tmp 8]) (vs := [_, _, _]) rfl rfl ⟨⟨_, rfl, .inr ⟨frA na' fa' nc' fc' s'.1, sh26, hb_6.row, rfl⟩⟩, rfl, rfl, trivial⟩ ?_
    exact ⟨G, na', fa', nc', fc', s'.1, r, 0, M', rfl, hu, hnc', hfc', hA', hup, .inr ⟨hyes, s', r, e, hJ, by rw [if_pos he]; omega, fun h => absurd rfl h, fun _ => ⟨rfl, rfl⟩⟩⟩
  ·
   have he := h7
   refine RC.skip (RC.back (RC.seq (RC.seq (RC.region rfl ?_))));refine RL.mvS rfl ?_;refine RL.eS (.bin rfl rfl rfl) ?_;refine RL.nil (RC.back ?_);refine RC.cond_dec rfl (fun h11 => ?_) (fun h11 => ?_)
   ·
    have hz := h11
    refine RC.seq (RC.region rfl ?_);refine RL.eS (.buildS ze26 pl26 rfl rfl) ?_;refine RL.mvS rfl ?_;refine RL.stS sh26 rfl rfl rfl hb_6 (fun w12 z12 hb_6 a12 => ?_)
    have G := agNew G a12 geG_6
    have hb_19 := hb_19.upd a12 n_6__19.symm
    have hA' := hA'.updD a12 dA6
    have hJ := hJ.updD a12 hD6
    have hb_6 : Has w12 b_6 ([.slice none 0 0, .slice none 0 0]) _ := hb_6.now (by kernel_rfl)
    refine RL.asS rfl ?_;refine RL.asS rfl ?_;refine RL.nil (RC.back ?_);refine RC.done (rs := [.cell 6 26, .tmp 7, .tmp 8]) (vs := [_, _, _]) rfl rfl ⟨⟨_, rfl, .inr ⟨[.slice none 0 0, .slice none 0 0], sh26, hb_6.row, rfl⟩⟩, rfl, rfl, trivial⟩ ?_
    exact ⟨G, none, none, 0, 0, ar0, 0, e, fun _ => False, rfl, u0, by decide, by decide, ⟨fun _ h => h.elim, fun _ _ => ⟨Sl.nil _ _ _, Sl.nil _ _ _, by simp [ar0], by simp [ar0]⟩⟩, fun _ h => h.elim, .inr ⟨hyes, s', r, e, hJ, by rw [if_neg he], fun _ => ⟨rfl, rfl⟩, fun h => absurd h hz⟩⟩
   ·
    have hz := h11
    refine RC.skip (RC.back (RC.seq (RC.region rfl ?_)));refine RL.mvS rfl ?_;refine RL.eS (.nilCheck rfl) ?_;refine RL.eS (.field0 fo130_0 rfl) ?_;refine RL.eS (.loadR (frA na' fa' nc' fc' s'.1) sh26 rfl (row_pre (xs := frA na' fa' nc' fc' s'.1) (ys := [.int .i64 s'.2]) hb_19) rfl) ?_;refine RL.mvS rfl ?_;refine RL.stS sh26 rfl rfl rfl hb_6 (fun w13 z13 hb_6 a13 => ?_)
    have G := agNew G a13 geG_6
    have hA' := hA'.updD a13 dA6
    have hb_6 : Has w13 b_6 (frA na' fa' nc' fc' s'.1) _ := hb_6.now (by kernel_rfl)
    refine RL.asS rfl ?_;refine RL.asS rfl ?_;refine RL.nil (RC.back ?_);refine RC.done (rs := [.cell 6 26, .tmp 7, .tmp 8]) (vs := [_, _, _]) rfl rfl ⟨⟨_, rfl, .inr ⟨frA na' fa' nc' fc' s'.1, sh26, hb_6.row, rfl⟩⟩, rfl, rfl, trivial⟩ ?_
    exact absurd he hz
theorem allMaps_1 (A : Ar) (r : Int) : allMaps A [r] = isMapB A r := by rw [allMaps, List.all_cons, List.all_nil, Bool.and_true, isMapB_ok]
theorem Ft.pure {p : Prop} {w : World} (h : p) : Ft (fun _ => False) (fun _ => p) w := ⟨fun _ h => h.elim, fun _ _ => h⟩
def BadK (L : List It) (key : Int) : Prop := key < -1073741824 ∨ key > 1073741824 ∨ (∀ x ∈ L, ¬ x.k = key) ∧ 200 ≤ L.length
def PutJ (A : Ar) (L : List It) (key v : Int) (s' : St) (r' e : Int) : Prop := (BadK L key ∧ e = 5) ∨ (¬ BadK L key ∧ e = 0 ∧ Gs (L.length + 1) (A, 0) s' ∧ (s'.2 = 0 → IsT s'.1 r' (putL L key v)))
theorem find_form {L : List It} {key : Int} {v : Value} (h : FindP L key v) : ∃ val fb, v = .tuple #[.int .i64 val, .bool fb] ∧ (fb = true ∧ (∃ x ∈ L, x.k = key ∧ x.v = val) ∨ fb = false ∧ val = 0 ∧ ∀ x ∈ L, ¬ x.k = key) := by
  rcases h with ⟨x, h1, h2, h3⟩ | ⟨h1, h2⟩
  · exact ⟨x.v, true, h3, .inl ⟨rfl, x, h1, h2, rfl⟩⟩
  · exact ⟨0, false, h2, .inr ⟨rfl, rfl, h1⟩⟩
theorem c_put1 (A : Ar) (r key v : Int) (hr : U64 r) (hkey : I64 key) (hv : I64 v) (L : List It) (hA : AOk A) (hL : IsT A r L) (hl : L.length ≤ 200) (bf b5 b6 b7 : Nat) (C : Nat → Prop) (w : World) (hF : Ft C (Fo bf (A, 0) C) w)
  (m5 : Has w b5 [.int .u64 r] 31) (m6 : Has w b6 [.int .i64 key] 2) (m7 : Has w b7 [.int .i64 v] 2) :
  FC Tryz.prog 127 [.pointer (some ⟨bf, 0, none⟩), .pointer (some ⟨b5, 0, none⟩), .pointer (some ⟨b6, 0, none⟩), .pointer (some ⟨b7, 0, none⟩)] w (fun u w2 => ∃ s' r' e C', u = .tuple #[.int .u64 r', .int .i64 e] ∧ U64 r' ∧ Ft C' (Fo bf s' C') w2 ∧ Agr (· = bf) w w2 ∧ Up C w C' ∧ PutJ A L key v s' r' e) := by
 refine FC.intro Tryz.func127 rfl Tryz.ntmps127 rfl ?_
 have G : Agr (· = bf) w w := Agr.refl _ _
 refine RC.seq (RC.region rfl ?_);refine RL.asS rfl ?_;refine RL.asS rfl ?_;refine RL.nil (RC.back (RC.seq (RC.region rfl ?_)));refine RL.mvS rfl ?_;refine RL.eS (.load1 sh31 rfl (m5.cell rfl)) ?_;refine RL.eS (.load1 sh2 rfl (m6.cell rfl)) ?_;refine RL.call rfl ok55 (c_ffind bf (A, 0) C r key L hL hr w hF) rfl rfl ?_;rintro _ w1 ⟨s2, hfp⟩;have G := G.trans s2.agr;have hF := hF.sub s2;have m5 := m5.sub s2;have m6 := m6.sub s2;have m7 := m7.sub s2
 obtain ⟨val, fb, rfl, hfb⟩ := find_form hfp
 refine RL.mvS rfl ?_;refine RL.eS (.extract rfl rfl) ?_;refine RL.eS (.extract rfl rfl) ?_;refine RL.asS rfl ?_;refine RL.asS rfl ?_;refine RL.nil (RC.back (RC.seq (RC.seq (RC.region rfl ?_))));refine RL.eS (.load1 sh2 rfl (m6.cell rfl)) ?_;refine RL.eS (.bin rfl rfl rfl) ?_;refine RL.mvS rfl ?_;refine RL.split 18 rfl (fun h3 => ?_) (fun h3 => ?_)
 ·
  have q1 : key < -1073741824 := h3
  refine RL.offs 2 rfl ?_;refine RL.eS (.pick_t rfl rfl) ?_;refine RL.mvS rfl ?_;refine RL.offs 9 rfl ?_;refine RL.eS (.pick_t rfl rfl) ?_;refine RL.nil (RC.back ?_);refine RC.cond_t rfl ?_;refine RC.seq (RC.region rfl ?_);refine RL.asS rfl ?_;refine RL.asS rfl ?_;refine RL.nil (RC.back ?_);refine RC.done (rs := [.tmp 5, .tmp 6]) (vs := [_, _]) rfl rfl ⟨rfl, rfl, trivial⟩ ?_
  exact ⟨(A, 0), 0, 5, C, rfl, u0, hF, G, Up.refl _ _, .inl ⟨.inl q1, rfl⟩⟩
 ·
  have q1 : ¬ key < -1073741824 := h3
  refine RL.eS (.load1 sh2 rfl (m6.cell rfl)) ?_;refine RL.eS (.bin rfl rfl rfl) ?_;refine RL.eS (.pick_f rfl rfl) ?_;refine RL.mvS rfl ?_;refine RL.split 22 rfl (fun h4 => ?_) (fun h4 => ?_)
  ·
   have q2 : key > 1073741824 := h4
   refine RL.offs 9 rfl ?_;refine RL.eS (.pick_t rfl rfl) ?_;refine RL.nil (RC.back ?_);refine RC.cond_t rfl ?_;refine RC.seq (RC.region rfl ?_);refine RL.asS rfl ?_;refine RL.asS rfl ?_;refine RL.nil (RC.back ?_);refine RC.done (rs := [.tmp 5, .tmp 6]) (vs := [_, _]) rfl rfl ⟨rfl, rfl, trivial⟩ ?_
   exact ⟨(A, 0), 0, 5, C, rfl, u0, hF, G, Up.refl _ _, .inl ⟨.inr (.inl q2), rfl⟩⟩
  ·
   have q2 : ¬ key > 1073741824 := h4
   refine RL.mvS rfl ?_;refine RL.eS (.not rfl) ?_;refine RL.mvS rfl ?_;refine RL.splitB 25 rfl (fun h5 => ?_) (fun h5 => ?_)
   ·
    have q3 : ∀ x ∈ L, ¬ x.k = key := (hfb.resolve_left (fun h => by have := h5; rw [h.1] at this; cases this)).2.2
    refine RL.mvS rfl ?_;refine RL.eS (.load1 sh31 rfl (m5.cell rfl)) ?_;refine RL.call rfl ok115 (c_fget bf (A, 0) C r hr w1 hF) rfl rfl ?_;rintro _ w6 ⟨rfl, s7⟩;have G := G.trans s7.agr;have hF := hF.sub s7;have m5 := m5.sub s7;have m6 := m6.sub s7;have m7 := m7.sub s7;refine RL.eS (.as (v' := .int .i64 (L.length : Int)) (.fieldV Tryz.underlying140 rfl sh2 rfl rfl) (by show Value.int .i64 (getN A r).s = _; rw [getN_s, sizeA_isT hL])) ?_;refine RL.eS (.bin rfl rfl rfl) ?_;refine RL.eS (.pick_t rfl rfl) ?_;refine RL.eS (.pick_f rfl rfl) ?_;refine RL.nil (RC.back ?_);refine RC.cond_dec rfl (fun h8 => ?_) (fun h8 => ?_)
    ·
     have q4 := h8
     refine RC.seq (RC.region rfl ?_);refine RL.asS rfl ?_;refine RL.asS rfl ?_;refine RL.nil (RC.back ?_);refine RC.done (rs := [.tmp 5, .tmp 6]) (vs := [_, _]) rfl rfl ⟨rfl, rfl, trivial⟩ ?_
     exact ⟨(A, 0), 0, 5, C, rfl, u0, hF, G, Up.refl _ _, .inl ⟨.inr (.inr ⟨q3, by omega⟩), rfl⟩⟩
    ·
     have q4 := h8
     refine RC.skip (RC.back (RC.seq (RC.region rfl ?_)));refine RL.mvS rfl ?_;refine RL.eS (.load1 sh31 rfl (m5.cell rfl)) ?_;refine RL.eS (.load1 sh2 rfl (m6.cell rfl)) ?_;refine RL.eS (.load1 sh2 rfl (m7.cell rfl)) ?_;refine RL.call rfl ok128 (c_fput bf key v hkey hv A r L hL (A, 0) C w6 (Ext.refl _) hA hr (by omega) hF) rfl rfl ?_;rintro _ w9 ⟨s1, C1, hg, ⟨r1, rfl, hu1, hi⟩, hF1, ag, up⟩
     have up := up.le G.size
     have G := G.trans ag;refine RL.asS rfl ?_;refine RL.asS rfl ?_;refine RL.nil (RC.back ?_);refine RC.done (rs := [.tmp 5, .tmp 6]) (vs := [_, _]) rfl rfl ⟨rfl, rfl, trivial⟩ ?_
     exact ⟨s1, r1, 0, C1, rfl, hu1, hF1, G, up, .inr ⟨fun h => h.elim q1 (fun h => h.elim q2 (fun h => by omega)), rfl, hg, hi⟩⟩
   ·
    have q3 : ∃ x ∈ L, x.k = key := (hfb.resolve_right (fun h => by have := h5; rw [h.1] at this; cases this)).2.imp fun x h => ⟨h.1, h.2.1⟩
    refine RL.offs 5 rfl ?_;refine RL.eS (.pick_f rfl rfl) ?_;refine RL.eS (.pick_f rfl rfl) ?_;refine RL.nil (RC.back ?_);refine RC.cond_f rfl ?_;refine RC.skip (RC.back (RC.seq (RC.region rfl ?_)));refine RL.mvS rfl ?_;refine RL.eS (.load1 sh31 rfl (m5.cell rfl)) ?_;refine RL.eS (.load1 sh2 rfl (m6.cell rfl)) ?_;refine RL.eS (.load1 sh2 rfl (m7.cell rfl)) ?_;refine RL.call rfl ok128 (c_fput bf key v hkey hv A r L hL (A, 0) C w1 (Ext.refl _) hA hr (by omega) hF) rfl rfl ?_;rintro _ w11 ⟨s1, C1, hg, ⟨r1, rfl, hu1, hi⟩, hF1, ag, up⟩
    have up := up.le G.size
    have G := G.trans ag;refine RL.asS rfl ?_;refine RL.asS rfl ?_;refine RL.nil (RC.back ?_);refine RC.done (rs := [.tmp 5, .tmp 6]) (vs := [_, _]) rfl rfl ⟨rfl, rfl, trivial⟩ ?_
    exact ⟨s1, r1, 0, C1, rfl, hu1, hF1, G, up, .inr ⟨fun h => h.elim q1 (fun h => h.elim q2 (fun h => by obtain ⟨x, hx, hk⟩ := q3; exact h.1 x hx hk)), rfl, hg, hi⟩⟩
def PutP (A : Ar) (r key v : Int) (B : Ar) (r' e : Int) : Prop :=
  (¬ isMap A r → e = 1) ∧ (¬ e = 0 → B = ar0 ∧ r' = 0) ∧ ∀ L, isMap A r → IsT A r L → (BadK L key ∧ e = 5) ∨ (¬ BadK L key ∧ e = 2 ∧ A.free.length < L.length + 1) ∨ (¬ BadK L key ∧ e = 0 ∧ Ext A B ∧ AOk B ∧ A.free.length ≤ B.free.length + (L.length + 1) ∧ IsT B r' (putL L key v))
theorem put_form {A B : Ar} {r key v r' e : Int} {w w' : World} {L : List It} (hm : isMap A r → IsT A r L) (h : CallP A [r] (fun s' r' e _ => PutJ A L key v s' r' e) (fun _ => False) w w' B r' e) : PutP A r key v B r' e := by
  rcases h with ⟨h1, h2, h3, h4, _⟩ | ⟨h1, s', r0, e0, hJ, he, h3, h4⟩
  · rw [allMaps_1] at h1
    refine ⟨fun _ => h2, fun _ => ⟨h3, h4⟩, fun L' h => ?_⟩
    rw [isMapB_yes h] at h1; cases h1
  · rw [allMaps_1] at h1
    have hmap := (isMapB_iff A r).1 h1
    refine ⟨fun h => absurd hmap h, h3, fun L' _ hL' => ?_⟩
    obtain rfl := hL'.unique (hm hmap)
    rcases hJ.now with ⟨hb, h5⟩ | ⟨hb, h5, hg, hi⟩
    · exact .inl ⟨hb, by rw [he, h5]; rfl⟩
    · rw [h5, if_pos rfl] at he
      by_cases h0 : s'.2 = 0
      · obtain ⟨rfl, rfl⟩ := h4 (by rw [he, h0])
        exact .inr (.inr ⟨hb, by rw [he, h0], hg.ext, hg.ok, hg.free, hi h0⟩)
      · have := hg.full rfl h0
        exact .inr (.inl ⟨hb, by rw [he, this.1], this.2⟩)
theorem c_tput (A : Ar) (na fa : Option Addr) (nc fc : Nat) (hnc : A.nodes.length ≤ nc) (hfc : A.free.length ≤ fc) (r key v : Int) (hr : U64 r) (hkey : I64 key) (hv : I64 v) (M : Nat → Prop) (w : World) (hA : Ft M (fun u => ArR u na fa A) w) :
    FC Tryz.prog 74 [arV na fa nc fc A, .int .u64 r, .int .i64 key, .int .i64 v] w (fun u w' => Sub w w' ∧ ArP M w w' (PutP A r key v) u) := by
  obtain ⟨L, hm⟩ : ∃ L, isMap A r → IsT A r L := by
    by_cases h : isMap A r
    · obtain ⟨_, L, hL, _⟩ := id h; exact ⟨L, fun _ => hL⟩
    · exact ⟨[], fun h' => absurd h' h⟩
  refine FC.intro Tryz.func74 rfl Tryz.ntmps74 rfl ?_
  have S := Sub.refl w
  refine RC.seq (RC.region rfl ?_);refine RL.box rfl rfl rfl (fun b_4 w_4 e_4 z_4 hb_4 s_4 => ?_);have S := S.trans s_4;have hA := hA.sub s_4
  have hb_4 : Has w_4 b_4 ([.slice na A.nodes.length nc, .slice fa A.free.length fc]) _ := hb_4
  refine RL.box rfl rfl rfl (fun b_5 w_5 e_5 z_5 hb_5 s_5 => ?_);have S := S.trans s_5;have hA := hA.sub s_5;have hb_4 := hb_4.sub s_5;refine RL.box rfl rfl rfl (fun b_6 w_6 e_6 z_6 hb_6 s_6 => ?_);have S := S.trans s_6;have hA := hA.sub s_6;have hb_4 := hb_4.sub s_6;have hb_5 := hb_5.sub s_6;refine RL.box rfl rfl rfl (fun b_7 w_7 e_7 z_7 hb_7 s_7 => ?_);have S := S.trans s_7;have hA := hA.sub s_7;have hb_4 := hb_4.sub s_7;have hb_5 := hb_5.sub s_7;have hb_6 := hb_6.sub s_7;refine RL.alloc ze26 rfl rfl (fun b_8 w_8 e_8 z_8 hb_8 s_8 => ?_);have ge_8 := S.le e_8;have d_hA_b_8 := hA.neNew e_8;have S := S.trans s_8;have hA := hA.sub s_8;have hb_4 := hb_4.sub s_8;have hb_5 := hb_5.sub s_8;have hb_6 := hb_6.sub s_8;have hb_7 := hb_7.sub s_8;refine RL.asS rfl ?_;refine RL.asS rfl ?_;refine RL.nil (RC.back (RC.seq (RC.region rfl ?_)));refine RL.eS (.loadR ([.slice na A.nodes.length nc, .slice fa A.free.length fc]) sh26 rfl hb_4.row rfl) ?_;refine RL.eS (.load1 sh31 rfl (hb_5.cell rfl)) ?_;refine RL.buildSlice1 sl73 _ ze31 rfl rfl rfl rfl rfl rfl rfl (fun b_13 w_13 e_13 z_13 hb_13 s_13 => ?_);have S := S.trans s_13;have hA := hA.sub s_13;have hb_5 := hb_5.sub s_13;have hb_6 := hb_6.sub s_13;have hb_7 := hb_7.sub s_13;have hb_8 := hb_8.sub s_13;refine RL.eS (.func (xs := []) (ys := [_, _, _]) rfl rfl) ?_;refine RL.call rfl ok126 (c_tcall 127 ok127 [.pointer (some ⟨b_5, 0, none⟩), .pointer (some ⟨b_6, 0, none⟩), .pointer (some ⟨b_7, 0, none⟩)] A na fa nc fc hnc hfc [r] (some ⟨b_13, 0, none⟩) 1 1 rfl (Nat.le_of_ble_eq_true rfl) (fun x hx => by rw [List.mem_singleton] at hx; rw [hx]; exact hr) (fun _ => False) M (fun s' r' e _ => PutJ A L key v s' r' e) w_13 hA (Has.sl1 (enc := u6) (l := [r]) hb_13) (fun _ h => h.elim) (fun hyes bf C w1 s1 hbf hF _ => FC.mono (c_put1 A r key v hr hkey hv L ((isMapB_iff A r).1 (by rw [← allMaps_1]; exact hyes)).1 (hm ((isMapB_iff A r).1 (by rw [← allMaps_1]; exact hyes))) (isMap_len ((isMapB_iff A r).1 (by rw [← allMaps_1]; exact hyes)) (hm ((isMapB_iff A r).1 (by rw [← allMaps_1]; exact hyes)))) bf b_5 b_6 b_7 C w1 hF (hb_5.sub s1) (hb_6.sub s1) (hb_7.sub s1)) (fun u w2 ⟨s', r', e, C', h1, h2, h3, h4, h5, h6⟩ => ⟨s', r', e, C', h1, h2, h3, h4.mono fun k _ e => .inl e, h5, Ft.pure h6⟩))) rfl rfl ?_;rintro _ w1 ⟨ag, na', fa', nc', fc', B, r', e, M', rfl, hu, hnc', hfc', hA', hup, hcp⟩
  have dB8 : ∀ k, M' k → k ≠ b_8 := (fun k hk e => hup.not hb_8.lt (fun e' => d_hA_b_8 _ e' rfl) (e ▸ hk))
  have hup := hup.le S.size
  have S := S.trans ag.sub;have hb_8 := hb_8.sub ag.sub
  have hpp := put_form hm hcp
  refine RL.eS (.extract rfl rfl) ?_;refine RL.eS (.extract rfl rfl) ?_;refine RL.eS (.extract rfl rfl) ?_;refine RL.stS sh26 rfl rfl rfl hb_8 (fun w3 z3 hb_8 a3 => ?_);have S := S.upd a3 ge_8
  have hA' := hA'.updD a3 dB8
  have hb_8 : Has w3 b_8 ([.slice na' B.nodes.length nc', .slice fa' B.free.length fc']) _ := hb_8.now (by kernel_rfl)
  refine RL.asS rfl ?_;refine RL.asS rfl ?_;refine RL.nil (RC.back ?_);refine RC.done (rs := [.cell 8 26, .tmp 9, .tmp 10]) (vs := [_, _, _]) rfl rfl ⟨⟨_, rfl, .inr ⟨[.slice na' B.nodes.length nc', .slice fa' B.free.length fc'], sh26, hb_8.row, rfl⟩⟩, rfl, rfl, trivial⟩ ?_
  exact ⟨S, na', fa', nc', fc', B, r', e, M', rfl, hu, hnc', hfc', hA', hup, hpp⟩
theorem mapsL (A : Ar) (r : Int) : ∃ L, isMap A r → IsT A r L := by
  by_cases h : isMap A r
  · obtain ⟨_, L, hL, _⟩ := id h; exact ⟨L, fun _ => hL⟩
  · exact ⟨[], fun h' => absurd h' h⟩
theorem maps_1 {A : Ar} {r : Int} (h : allMaps A [r] = true) : isMap A r := (isMapB_iff A r).1 (by rw [← allMaps_1]; exact h)
def DelJ (A : Ar) (L : List It) (key : Int) (s' : St) (r' e : Int) : Prop := ((∀ x ∈ L, ¬ x.k = key) ∧ e = 3) ∨ ((∃ x ∈ L, x.k = key) ∧ e = 0 ∧ Gs (L.length - 1) (A, 0) s' ∧ (s'.2 = 0 → IsT s'.1 r' (delL L key)))
theorem c_del1 (A : Ar) (r key : Int) (hr : U64 r) (hkey : I64 key) (L : List It) (hA : AOk A) (hL : IsT A r L) (hl : L.length ≤ 200) (bf b4 b5 : Nat) (C : Nat → Prop) (w : World) (hF : Ft C (Fo bf (A, 0) C) w)
  (m4 : Has w b4 [.int .u64 r] 31) (m5 : Has w b5 [.int .i64 key] 2) :
  FC Tryz.prog 129 [.pointer (some ⟨bf, 0, none⟩), .pointer (some ⟨b4, 0, none⟩), .pointer (some ⟨b5, 0, none⟩)] w (fun u w2 => ∃ s' r' e C', u = .tuple #[.int .u64 r', .int .i64 e] ∧ U64 r' ∧ Ft C' (Fo bf s' C') w2 ∧ Agr (· = bf) w w2 ∧ Up C w C' ∧ DelJ A L key s' r' e) := by
 refine FC.intro Tryz.func129 rfl Tryz.ntmps129 rfl ?_
 have G : Agr (· = bf) w w := Agr.refl _ _
 refine RC.seq (RC.region rfl ?_);refine RL.asS rfl ?_;refine RL.asS rfl ?_;refine RL.nil (RC.back (RC.seq (RC.seq (RC.region rfl ?_))));refine RL.mvS rfl ?_;refine RL.eS (.load1 sh31 rfl (m4.cell rfl)) ?_;refine RL.eS (.load1 sh2 rfl (m5.cell rfl)) ?_;refine RL.call rfl ok55 (c_ffind bf (A, 0) C r key L hL hr w hF) rfl rfl ?_;rintro _ w1 ⟨s2, hfp⟩;have G := G.trans s2.agr;have hF := hF.sub s2;have m4 := m4.sub s2;have m5 := m5.sub s2
 obtain ⟨val, fb, rfl, hfb⟩ := find_form hfp
 refine RL.mvS rfl ?_;refine RL.eS (.extract rfl rfl) ?_;refine RL.eS (.extract rfl rfl) ?_;refine RL.asS rfl ?_;refine RL.asS rfl ?_;refine RL.nil (RC.back (RC.seq (RC.region rfl ?_)));refine RL.mvS rfl ?_;refine RL.eS (.not rfl) ?_;refine RL.nil (RC.back ?_);refine RC.cond rfl (fun h3 => ?_) (fun h3 => ?_)
 ·
  have q3 : ∀ x ∈ L, ¬ x.k = key := (hfb.resolve_left (fun h => by have := h3; rw [h.1] at this; cases this)).2.2
  refine RC.seq (RC.region rfl ?_);refine RL.asS rfl ?_;refine RL.asS rfl ?_;refine RL.nil (RC.back ?_);refine RC.done (rs := [.tmp 4, .tmp 5]) (vs := [_, _]) rfl rfl ⟨rfl, rfl, trivial⟩ ?_
  exact ⟨(A, 0), 0, 3, C, rfl, u0, hF, G, Up.refl _ _, .inl ⟨q3, rfl⟩⟩
 ·
  have q3 : ∃ x ∈ L, x.k = key := (hfb.resolve_right (fun h => by have := h3; rw [h.1] at this; cases this)).2.imp fun x h => ⟨h.1, h.2.1⟩
  refine RC.skip (RC.back (RC.seq (RC.region rfl ?_)));refine RL.mvS rfl ?_;refine RL.eS (.load1 sh31 rfl (m4.cell rfl)) ?_;refine RL.eS (.load1 sh2 rfl (m5.cell rfl)) ?_;refine RL.call rfl ok130 (c_fdel bf key hkey A r L hL (A, 0) C w1 (Ext.refl _) hA hr (by omega) q3 hF) rfl rfl ?_;rintro _ w4 ⟨s1, C1, hg, ⟨r1, rfl, hu1, hi⟩, hF1, ag, up⟩
  have up := up.le G.size
  have G := G.trans ag;refine RL.asS rfl ?_;refine RL.asS rfl ?_;refine RL.nil (RC.back ?_);refine RC.done (rs := [.tmp 4, .tmp 5]) (vs := [_, _]) rfl rfl ⟨rfl, rfl, trivial⟩ ?_
  exact ⟨s1, r1, 0, C1, rfl, hu1, hF1, G, up, .inr ⟨q3, rfl, hg, hi⟩⟩
def DelP (A : Ar) (r key : Int) (B : Ar) (r' e : Int) : Prop :=
  (¬ isMap A r → e = 1) ∧ (¬ e = 0 → B = ar0 ∧ r' = 0) ∧ ∀ L, isMap A r → IsT A r L → ((∀ x ∈ L, ¬ x.k = key) ∧ e = 3) ∨ ((∃ x ∈ L, x.k = key) ∧ e = 2 ∧ A.free.length < L.length - 1) ∨ ((∃ x ∈ L, x.k = key) ∧ e = 0 ∧ Ext A B ∧ AOk B ∧ A.free.length ≤ B.free.length + (L.length - 1) ∧ IsT B r' (delL L key))
theorem del_form {A B : Ar} {r key r' e : Int} {w w' : World} {L : List It} (hm : isMap A r → IsT A r L) (h : CallP A [r] (fun s' r' e _ => DelJ A L key s' r' e) (fun _ => False) w w' B r' e) : DelP A r key B r' e := by
  rcases h with ⟨h1, h2, h3, h4, _⟩ | ⟨h1, s', r0, e0, hJ, he, h3, h4⟩
  · rw [allMaps_1] at h1
    refine ⟨fun _ => h2, fun _ => ⟨h3, h4⟩, fun L' h => ?_⟩
    rw [isMapB_yes h] at h1; cases h1
  · have hmap := maps_1 h1
    refine ⟨fun h => absurd hmap h, h3, fun L' _ hL' => ?_⟩
    obtain rfl := hL'.unique (hm hmap)
    rcases hJ.now with ⟨hb, h5⟩ | ⟨hb, h5, hg, hi⟩
    · exact .inl ⟨hb, by rw [he, h5]; rfl⟩
    · rw [h5, if_pos rfl] at he
      by_cases h0 : s'.2 = 0
      · obtain ⟨rfl, rfl⟩ := h4 (by rw [he, h0])
        exact .inr (.inr ⟨hb, by rw [he, h0], hg.ext, hg.ok, hg.free, hi h0⟩)
      · have := hg.full rfl h0
        exact .inr (.inl ⟨hb, by rw [he, this.1], this.2⟩)
theorem c_tdel (A : Ar) (na fa : Option Addr) (nc fc : Nat) (hnc : A.nodes.length ≤ nc) (hfc : A.free.length ≤ fc) (r key : Int) (hr : U64 r) (hkey : I64 key) (M : Nat → Prop) (w : World) (hA : Ft M (fun u => ArR u na fa A) w) :
  FC Tryz.prog 77 [arV na fa nc fc A, .int .u64 r, .int .i64 key] w (fun u w' => Sub w w' ∧ ArP M w w' (DelP A r key) u) := by
 obtain ⟨L, hm⟩ := mapsL A r
 refine FC.intro Tryz.func77 rfl Tryz.ntmps77 rfl ?_
 have S := Sub.refl w
 refine RC.seq (RC.region rfl ?_);refine RL.box rfl rfl rfl (fun b_3 w_3 e_3 z_3 hb_3 s_3 => ?_);have S := S.trans s_3;have hA := hA.sub s_3
 have hb_3 : Has w_3 b_3 ([.slice na A.nodes.length nc, .slice fa A.free.length fc]) _ := hb_3
 refine RL.box rfl rfl rfl (fun b_4 w_4 e_4 z_4 hb_4 s_4 => ?_);have S := S.trans s_4;have hA := hA.sub s_4;have hb_3 := hb_3.sub s_4;refine RL.box rfl rfl rfl (fun b_5 w_5 e_5 z_5 hb_5 s_5 => ?_);have S := S.trans s_5;have hA := hA.sub s_5;have hb_3 := hb_3.sub s_5;have hb_4 := hb_4.sub s_5;refine RL.alloc ze26 rfl rfl (fun b_6 w_6 e_6 z_6 hb_6 s_6 => ?_);have ge_6 := S.le e_6;have d_hA_b_6 := hA.neNew e_6;have S := S.trans s_6;have hA := hA.sub s_6;have hb_3 := hb_3.sub s_6;have hb_4 := hb_4.sub s_6;have hb_5 := hb_5.sub s_6;refine RL.asS rfl ?_;refine RL.asS rfl ?_;refine RL.nil (RC.back (RC.seq (RC.region rfl ?_)));refine RL.eS (.loadR ([.slice na A.nodes.length nc, .slice fa A.free.length fc]) sh26 rfl hb_3.row rfl) ?_;refine RL.eS (.load1 sh31 rfl (hb_4.cell rfl)) ?_;refine RL.buildSlice1 sl73 _ ze31 rfl rfl rfl rfl rfl rfl rfl (fun b_11 w_11 e_11 z_11 hb_11 s_11 => ?_);have S := S.trans s_11;have hA := hA.sub s_11;have hb_4 := hb_4.sub s_11;have hb_5 := hb_5.sub s_11;have hb_6 := hb_6.sub s_11;refine RL.eS (.func (xs := []) (ys := [_, _]) rfl rfl) ?_;refine RL.call rfl ok126 (c_tcall 129 ok129 [.pointer (some ⟨b_4, 0, none⟩), .pointer (some ⟨b_5, 0, none⟩)] A na fa nc fc hnc hfc [r] (some ⟨b_11, 0, none⟩) 1 1 rfl (Nat.le_of_ble_eq_true rfl) (fun x hx => by rw [List.mem_singleton] at hx; rw [hx]; exact hr) (fun _ => False) M (fun s' r' e _ => DelJ A L key s' r' e) w_11 hA (Has.sl1 (enc := u6) (l := [r]) hb_11) (fun _ h => h.elim) (fun hyes bf C w1 s1 hbf hF _ => FC.mono (c_del1 A r key hr hkey L (maps_1 hyes).1 (hm (maps_1 hyes)) (isMap_len (maps_1 hyes) (hm (maps_1 hyes))) bf b_4 b_5 C w1 hF (hb_4.sub s1) (hb_5.sub s1)) (fun u w2 ⟨s', r', e, C', h1, h2, h3, h4, h5, h6⟩ => ⟨s', r', e, C', h1, h2, h3, h4.mono fun k _ e => .inl e, h5, Ft.pure h6⟩))) rfl rfl ?_;rintro _ w1 ⟨ag, na', fa', nc', fc', B, r', e, M', rfl, hu, hnc', hfc', hA', hup, hcp⟩
 have dB6 : ∀ k, M' k → k ≠ b_6 := (fun k hk e => hup.not hb_6.lt (fun e' => d_hA_b_6 _ e' rfl) (e ▸ hk))
 have hup := hup.le S.size
 have S := S.trans ag.sub;have hb_6 := hb_6.sub ag.sub
 have hpp := del_form hm hcp
 refine RL.eS (.extract rfl rfl) ?_;refine RL.eS (.extract rfl rfl) ?_;refine RL.eS (.extract rfl rfl) ?_;refine RL.stS sh26 rfl rfl rfl hb_6 (fun w3 z3 hb_6 a3 => ?_);have S := S.upd a3 ge_6
 have hA' := hA'.updD a3 dB6
 have hb_6 : Has w3 b_6 ([.slice na' B.nodes.length nc', .slice fa' B.free.length fc']) _ := hb_6.now (by kernel_rfl)
 refine RL.asS rfl ?_;refine RL.asS rfl ?_;refine RL.nil (RC.back ?_);refine RC.done (rs := [.cell 6 26, .tmp 7, .tmp 8]) (vs := [_, _, _]) rfl rfl ⟨⟨_, rfl, .inr ⟨[.slice na' B.nodes.length nc', .slice fa' B.free.length fc'], sh26, hb_6.row, rfl⟩⟩, rfl, rfl, trivial⟩ ?_
 exact ⟨S, na', fa', nc', fc', B, r', e, M', rfl, hu, hnc', hfc', hA', hup, hpp⟩
theorem c_tget (A : Ar) (na fa : Option Addr) (nc fc : Nat) (hnc : A.nodes.length ≤ nc) (hfc : A.free.length ≤ fc) (r key : Int) (hr : U64 r) (M : Nat → Prop) (w : World) (hA : Ft M (fun u => ArR u na fa A) w) :
  FC Tryz.prog 16 [arV na fa nc fc A, .int .u64 r, .int .i64 key] w (fun u w' => Sub w w' ∧ ∃ v e, u = .tuple #[.int .i64 v, .int .i64 e] ∧ (¬ isMap A r → v = 0 ∧ e = 1) ∧ ∀ L, isMap A r → IsT A r L → ((∀ x ∈ L, ¬ x.k = key) ∧ v = 0 ∧ e = 3) ∨ (∃ x ∈ L, x.k = key ∧ x.v = v) ∧ e = 0) := by
 obtain ⟨L, hm⟩ := mapsL A r
 refine FC.intro Tryz.func16 rfl Tryz.ntmps16 rfl ?_
 have S := Sub.refl w
 refine RC.seq (RC.region rfl ?_);refine RL.box rfl rfl rfl (fun b_3 w_3 e_3 z_3 hb_3 s_3 => ?_);have S := S.trans s_3;have hA := hA.sub s_3
 have hb_3 : Has w_3 b_3 ([.slice na A.nodes.length nc, .slice fa A.free.length fc]) _ := hb_3
 refine RL.asS rfl ?_;refine RL.asS rfl ?_;refine RL.nil (RC.back (RC.seq (RC.seq (RC.region rfl ?_))));refine RL.eS (.loadR ([.slice na A.nodes.length nc, .slice fa A.free.length fc]) sh26 rfl hb_3.row rfl) ?_;refine RL.mvS rfl ?_;refine RL.call rfl ok54 (c_tRight A na fa nc fc r hr w_3 hA.now) rfl rfl ?_;rintro _ w1 ⟨rfl, s2⟩;have S := S.trans s2;have hA := hA.sub s2;have hb_3 := hb_3.sub s2;refine RL.eS (.not rfl) ?_;refine RL.nil (RC.back ?_);refine RC.cond rfl (fun h3 => ?_) (fun h3 => ?_)
 ·
  have hno : ¬ isMap A r := (fun h => by have h2 := h3; rw [isMapB_yes h] at h2; cases h2)
  refine RC.seq (RC.region rfl ?_);refine RL.asS rfl ?_;refine RL.asS rfl ?_;refine RL.nil (RC.back ?_);refine RC.done (rs := [.tmp 6, .tmp 7]) (vs := [_, _]) rfl rfl ⟨rfl, rfl, trivial⟩ ?_
  exact ⟨S, 0, 1, rfl, fun _ => ⟨rfl, rfl⟩, fun L h => absurd h hno⟩
 ·
  have hmap : isMap A r := (isMapB_iff A r).1 (by simpa using h3)
  have hL := hm hmap
  refine RC.skip (RC.back (RC.seq (RC.region rfl ?_)));refine RL.eS (.loadR ([.slice na A.nodes.length nc, .slice fa A.free.length fc]) sh26 rfl hb_3.row rfl) ?_;refine RL.eS (.buildS ze130 pl130 rfl rfl) ?_;refine RL.box rfl rfl rfl (fun b_17 w_17 e_17 z_17 hb_17 s_17 => ?_);have d_hA_b_17 := hA.neNew e_17;have S := S.trans s_17;have hA := hA.sub s_17
  have hb_17 : Has w_17 b_17 (frC na fa nc fc A 0) 130 := hb_17
  have hF := Fo.ft (s := (A, 0)) hb_17 hnc hfc hA (fun e => d_hA_b_17 _ e rfl)
  refine RL.asS rfl ?_;refine RL.nil (RC.back (RC.seq (RC.region rfl ?_)));refine RL.mvS rfl ?_;refine RL.mvS rfl ?_;refine RL.mvS rfl ?_;refine RL.call rfl ok55 (c_ffind b_17 (A, 0) _ r key L hL hr w_17 hF) rfl rfl ?_;rintro _ w4 ⟨s5, hfp⟩;have S := S.trans s5
  obtain ⟨val, fb, rfl, hfb⟩ := find_form hfp
  refine RL.mvS rfl ?_;refine RL.eS (.extract rfl rfl) ?_;refine RL.eS (.extract rfl rfl) ?_;refine RL.asS rfl ?_;refine RL.asS rfl ?_;refine RL.nil (RC.back (RC.seq (RC.seq (RC.region rfl ?_))));refine RL.mvS rfl ?_;refine RL.eS (.not rfl) ?_;refine RL.nil (RC.back ?_);refine RC.cond rfl (fun h6 => ?_) (fun h6 => ?_)
  ·
   have q3 := (hfb.resolve_left (fun h => by have := h6; rw [h.1] at this; cases this)).2
   refine RC.seq (RC.region rfl ?_);refine RL.asS rfl ?_;refine RL.asS rfl ?_;refine RL.nil (RC.back ?_);refine RC.done (rs := [.tmp 6, .tmp 7]) (vs := [_, _]) rfl rfl ⟨rfl, rfl, trivial⟩ ?_
   exact ⟨S, 0, 3, rfl, fun h => absurd hmap h, fun L' _ hL' => .inl ⟨by rw [hL'.unique hL]; exact q3.2, rfl, rfl⟩⟩
  ·
   have q3 := (hfb.resolve_right (fun h => by have := h6; rw [h.1] at this; cases this)).2
   refine RC.skip (RC.back (RC.seq (RC.region rfl ?_)));refine RL.mvS rfl ?_;refine RL.asS rfl ?_;refine RL.asS rfl ?_;refine RL.nil (RC.back ?_);refine RC.done (rs := [.tmp 6, .tmp 7]) (vs := [_, _]) rfl rfl ⟨rfl, rfl, trivial⟩ ?_
   exact ⟨S, val, 0, rfl, fun h => absurd hmap h, fun L' _ hL' => .inr ⟨by rw [hL'.unique hL]; exact q3, rfl⟩⟩
def GetL (L : List It) (key v e : Int) : Prop := ((∀ x ∈ L, ¬ x.k = key) ∧ v = 0 ∧ e = 3) ∨ (∃ x ∈ L, x.k = key ∧ x.v = v) ∧ e = 0
def MapsP (A : Ar) (r : Int) (L : List It) (o : OpT) (x : RsT) (B : Ar) (r' e : Int) : Prop :=
  ∃ v n, GetL L o.a v n ∧ ((o.kind = 2 ∧ PutP A r o.a o.b B r' e ∧ x = if n = 0 then tellR e 1 v else tellR e 0 0) ∨ (o.kind = 3 ∧ DelP A r o.a B r' e ∧ x = tellR e v 0))
structure MpS where
  b7 : Nat
  B : Ar
  r : Int
  e : Int
  nb : Option Addr
  fb : Option Addr
  ncb : Nat
  fcb : Nat
  M : Nat → Prop
set_option maxHeartbeats 2000000 in
theorem c_maps (b : Nat) (A : Ar) (R : Rt) (C : Nat → Prop) (hR : R.ok) (L : List It) (hm : isMap A R.m) (hL : IsT A R.m L) (o : OpT) (ho : o.ok) (hk : o.kind = 2 ∨ o.kind = 3) (w : World) (hF : Ft C (WkO b A R C) w) :
  FC Tryz.prog 37 [.pointer (some ⟨b, 0, none⟩), .agg o.cells.toArray] w (fun v w' => ∃ x B r e C', v = x.val ∧ Ft C' (WkO b (if e = 0 then B else A) (if e = 0 then { R with m := r } else R) C') w' ∧ Agr (· = b) w w' ∧ Up C w C' ∧ U64 r ∧ MapsP A R.m L o x B r e) := by
 obtain ⟨hCb, na, fa, nc, fc, M, hbf, hnc, hfc, hA, hMb, hMC⟩ := hF.now
 have dA : ∀ k, M k → k ≠ b := fun k hk e => hMb (e ▸ hk)
 have hu := hR.1
 obtain ⟨_, _, oa, ob⟩ := ho
 refine FC.intro Tryz.func37 rfl Tryz.ntmps37 rfl ?_
 have G : Agr (· = b) w w := Agr.refl _ _
 refine RC.seq (RC.region rfl ?_);refine RL.box rfl rfl rfl (fun b_3 w_3 e_3 z_3 hb_3 s_3 => ?_);have G := G.trans s_3.agr;have hbf := hbf.sub s_3;have hA := hA.sub s_3;have hF := hF.sub s_3
 have hb_3 : Has w_3 b_3 (o.cells) _ := hb_3
 refine RL.alloc ze38 rfl rfl (fun b_4 w_4 e_4 z_4 hb_4 s_4 => ?_);have n__4 := hbf.ne e_4;have d_hA_b_4 := hA.neNew e_4;have d_hF_b_4 := hF.neNew e_4
 have geG_4 := agLe G e_4
 have G := G.trans s_4.agr;have hbf := hbf.sub s_4;have hA := hA.sub s_4;have hF := hF.sub s_4;have hb_3 := hb_3.sub s_4;refine RL.nil (RC.back (RC.seq ?_));refine RC.drawD (fun k => False) [] w_4.heap.size 17 rfl rfl mxo (fun w1 s2 => ?_);have ltD_b := hbf.lt;have ltD_b_3 := hb_3.lt;have szD := Nat.le_refl w_4.heap.size;have G := G.trans s2.agr;have hbf := hbf.sub s2;have hA := hA.sub s2;have hF := hF.sub s2;have hb_3 := hb_3.sub s2;have hb_4 := hb_4.sub s2;have szD := Nat.le_trans szD s2.size;refine RD.tS 0 rfl (fun w' s' => .move rfl) ?_;refine RD.tS 1 rfl (fun w' s' => .nilCheck rfl) ?_;refine RD.tS 2 rfl (fun w' s' => .field0 fo109_0 rfl) ?_;refine RD.tS 3 rfl (fun w' s' => .loadR (wvA na fa nc fc A) sh26 rfl (row_pref (xs := wvA na fa nc fc A) (ys := [.int .u64 R.m, .int .u64 R.t, .int .u64 R.r, .int .u64 R.h]) (hbf.step s' (fun e => e.elim (fun e => e.elim) (fun e => Nat.not_le.2 ltD_b e)))) rfl) ?_;refine RD.tS 4 rfl (fun w' s' => .move rfl) ?_;refine RD.tS 5 rfl (fun w' s' => .nilCheck rfl) ?_;refine RD.tS 6 rfl (fun w' s' => .field0 fo109_1 rfl) ?_;refine RD.tS 7 rfl (fun w' s' => .field0 fo33_0 rfl) ?_;refine RD.tS 8 rfl (fun w' s' => .load1 sh31 rfl ((hbf.step s' (fun e => e.elim (fun e => e.elim) (fun e => Nat.not_le.2 ltD_b e))).cell rfl)) ?_;refine RD.tS 9 rfl (fun w' s' => .field0 fo35_2 rfl) ?_;refine RD.tS 10 rfl (fun w' s' => .load1 sh2 rfl ((hb_3.step s' (fun e => e.elim (fun e => e.elim) (fun e => Nat.not_le.2 ltD_b_3 e))).cell rfl)) ?_;refine RD.oneS 11 rfl ?_;refine RL.call rfl ok16 (c_tget A na fa nc fc hnc hfc R.m o.a hu M w1 hA) rfl rfl ?_;rintro _ w3 ⟨s4, v0, n0, rfl, _, hg⟩;have G := G.trans s4.agr;have hbf := hbf.sub s4;have hA := hA.sub s4;have hF := hF.sub s4;have hb_3 := hb_3.sub s4;have hb_4 := hb_4.sub s4;have szD := Nat.le_trans szD s4.size
 have hg := hg L hm hL
 refine RD.back s4.agr ?_;refine RD.tS 12 rfl (fun w' s' => .move rfl) ?_;refine RD.tS 13 rfl (fun w' s' => .as (v' := .int .i64 v0) (.extract rfl rfl) (by rfl)) ?_;refine RD.tS 14 rfl (fun w' s' => .as (v' := .int .i64 n0) (.extract rfl rfl) (by rfl)) ?_;refine RD.tS 15 rfl (fun w' s' => .assign rfl) ?_;refine RD.tS 16 rfl (fun w' s' => .assign rfl) ?_;refine RD.done (by kernel_rfl) (RC.back ?_);refine RC.seq (RC.seq (RC.region rfl ?_));refine RL.eS (.field0 fo35_1 rfl) ?_;refine RL.eS (.load1 sh3 rfl (hb_3.cell rfl)) ?_;refine RL.nil (RC.back (RC.block (RC.seq (RC.region rfl ?_))));refine RL.eS (.bin rfl rfl rfl) ?_;refine RL.asS rfl ?_;refine RL.nil (RC.back ?_);refine RC.cond_dec rfl (fun h5 => ?_) (fun h5 => ?_)
 ·
  have k2 : o.kind = 2 := h5
  refine RC.cutx (α := MpS) (fun z => [(0, .pointer (some ⟨b, 0, none⟩)), (4, .pointer (some ⟨b_4, 0, none⟩)), (5, .int .i64 v0), (6, .int .i64 n0), (7, .pointer (some ⟨z.b7, 0, none⟩)), (8, .int .u64 z.r), (9, .int .i64 z.e)]) (fun z w6 => (b_4 ≠ z.b7 ∧ b ≠ z.b7 ∧ z.B.nodes.length ≤ z.ncb ∧ z.B.free.length ≤ z.fcb ∧ U64 z.r ∧ PutP A R.m o.a o.b z.B z.r z.e ∧ (∀ k, z.M k → C k ∨ w.heap.size ≤ k)) ∧ (∀ k, z.M k → k ≠ b_4) ∧ (∀ k, z.M k → k ≠ b) ∧ Has w6 b_4 (⟨0, 0, 0⟩ : RsT).cells 38 ∧ Has w6 z.b7 (wvA z.nb z.fb z.ncb z.fcb z.B) 26 ∧ Ft z.M (fun u => ArR u z.nb z.fb z.B) w6 ∧ Ft C (WkO b A R C) w6 ∧ Agr (· = b) w w6) ?_ (fun z w6 hJ => ?_)
  ·
   refine RC.drawD (fun k => False) [19] w3.heap.size 22 rfl rfl mxo (fun w7 s8 => ?_);have ltD_b := hbf.lt;have ltD_b_3 := hb_3.lt;have szD := Nat.le_refl w3.heap.size;have G := G.trans s8.agr;have hbf := hbf.sub s8;have hA := hA.sub s8;have hF := hF.sub s8;have hb_3 := hb_3.sub s8;have hb_4 := hb_4.sub s8;have szD := Nat.le_trans szD s8.size;refine RD.tS 0 rfl (fun w' s' => .move rfl) ?_;refine RD.tS 1 rfl (fun w' s' => .nilCheck rfl) ?_;refine RD.tS 2 rfl (fun w' s' => .field0 fo109_0 rfl) ?_;refine RD.tS 3 rfl (fun w' s' => .loadR (wvA na fa nc fc A) sh26 rfl (row_pref (xs := wvA na fa nc fc A) (ys := [.int .u64 R.m, .int .u64 R.t, .int .u64 R.r, .int .u64 R.h]) (hbf.step s' (fun e => e.elim (fun e => e.elim) (fun e => Nat.not_le.2 ltD_b e)))) rfl) ?_;refine RD.tS 4 rfl (fun w' s' => .move rfl) ?_;refine RD.tS 5 rfl (fun w' s' => .nilCheck rfl) ?_;refine RD.tS 6 rfl (fun w' s' => .field0 fo109_1 rfl) ?_;refine RD.tS 7 rfl (fun w' s' => .field0 fo33_0 rfl) ?_;refine RD.tS 8 rfl (fun w' s' => .load1 sh31 rfl ((hbf.step s' (fun e => e.elim (fun e => e.elim) (fun e => Nat.not_le.2 ltD_b e))).cell rfl)) ?_;refine RD.tS 9 rfl (fun w' s' => .field0 fo35_2 rfl) ?_;refine RD.tS 10 rfl (fun w' s' => .load1 sh2 rfl ((hb_3.step s' (fun e => e.elim (fun e => e.elim) (fun e => Nat.not_le.2 ltD_b_3 e))).cell rfl)) ?_;refine RD.tS 11 rfl (fun w' s' => .field0 fo35_3 rfl) ?_;refine RD.tS 12 rfl (fun w' s' => .load1 sh2 rfl ((hb_3.step s' (fun e => e.elim (fun e => e.elim) (fun e => Nat.not_le.2 ltD_b_3 e))).cell rfl)) ?_;refine RD.all [13, 18] (by kernel_rfl) rfl (RDs.cons rfl ?_ (RDs.cons rfl ?_ (RDs.nil)))
   ·
    refine RL.call rfl ok74 (c_tput A na fa nc fc hnc hfc R.m o.a o.b hu oa ob M w7 hA) rfl rfl ?_;rintro _ w9 ⟨s10, nb, fb, ncb, fcb, B, r1, e1, M1, rfl, hu1, hnB, hfB, hB, hup, hpp⟩;have szG1 := G.size;have d_hB_b := upNe hup dA hbf.lt;have d_hB_b_4 := upNe hup d_hA_b_4 hb_4.lt
    have dBb : ∀ k, M1 k → k ≠ b := d_hB_b
    have G := G.trans s10.agr;have hbf := hbf.sub s10;have hA := hA.sub s10;have hF := hF.sub s10;have hb_3 := hb_3.sub s10;have hb_4 := hb_4.sub s10;have szD := Nat.le_trans szD s10.size;refine RD.back s10.agr ?_;refine RD.tS 14 rfl (fun w' s' => .move rfl) ?_;refine RD.tS 15 rfl (fun w' s' => .extract rfl rfl) ?_;refine RD.tS 16 rfl (fun w' s' => .as (v' := .int .u64 r1) (.extract rfl rfl) (by rfl)) ?_;refine RD.tS 17 rfl (fun w' s' => .as (v' := .int .i64 e1) (.extract rfl rfl) (by rfl)) ?_;refine RD.oneS 18 rfl ?_;refine RL.alloc ze26 rfl rfl (fun b_7 w_7 e_7 z_7 hb_7 s_7 => ?_)
    have fr_b_7 : w3.heap.size ≤ b_7 := by rw [e_7]; exact szD
    have n__7 := hbf.ne e_7;have n_3__7 := hb_3.ne e_7;have n_4__7 := hb_4.ne e_7;have d_hA_b_7 := hA.neNew e_7;have d_hF_b_7 := hF.neNew e_7;have d_hB_b_7 := hB.neNew e_7
    have geG_7 := agLe G e_7
    have G := G.trans s_7.agr;have hbf := hbf.sub s_7;have hA := hA.sub s_7;have hF := hF.sub s_7;have hb_3 := hb_3.sub s_7;have hb_4 := hb_4.sub s_7;have szD := Nat.le_trans szD s_7.size;have hB := hB.sub s_7;refine RD.back s_7.agr ?_;refine RD.oneS 19 rfl ?_;refine RL.stS sh26 rfl rfl rfl hb_7 (fun w11 z11 hb_7 a11 => ?_)
    have G := agNew G a11 geG_7
    have hbf := hbf.upd a11 n__7;have hA := hA.updD a11 d_hA_b_7;have hF := hF.updD a11 d_hF_b_7;have hb_3 := hb_3.upd a11 n_3__7;have hb_4 := hb_4.upd a11 n_4__7;have szD := Nat.le_trans szD a11.size;have hB := hB.updD a11 d_hB_b_7
    have hb_7 : Has w11 b_7 (wvA nb fb ncb fcb B) _ := hb_7.now (by kernel_rfl)
    refine RD.backW rfl (a11.mono fun k _ e => e ▸ (.inr fr_b_7)) ?_;refine RD.tS 20 rfl (fun w' s' => .assign rfl) ?_;refine RD.tS 21 rfl (fun w' s' => .assign rfl) ?_
    exact RD.done (by kernel_rfl) (fun a ka => ⟨⟨b_7, B, r1, e1, nb, fb, ncb, fcb, M1⟩, ⟨⟨(by first | exact n_4__7 | exact n_7__4.symm), (by first | exact n__7 | exact n_7__.symm), hnB, hfB, hu1, hpp, fun k h => (hup k h).elim (fun h => .inl (hMC k h)) (fun h => .inr (Nat.le_trans szG1 h))⟩, d_hB_b_4, dBb, hb_4, hb_7, hB, hF, G⟩, ka.keep (keep_of (by repeat (first | exact trivial | refine And.intro rfl ?_)))⟩)
   ·
    refine RL.alloc ze26 rfl rfl (fun b_7 w_7 e_7 z_7 hb_7 s_7 => ?_)
    have fr_b_7 : w3.heap.size ≤ b_7 := by rw [e_7]; exact szD
    have n__7 := hbf.ne e_7;have n_3__7 := hb_3.ne e_7;have n_4__7 := hb_4.ne e_7;have d_hA_b_7 := hA.neNew e_7;have d_hF_b_7 := hF.neNew e_7
    have geG_7 := agLe G e_7
    have G := G.trans s_7.agr;have hbf := hbf.sub s_7;have hA := hA.sub s_7;have hF := hF.sub s_7;have hb_3 := hb_3.sub s_7;have hb_4 := hb_4.sub s_7;have szD := Nat.le_trans szD s_7.size;refine RD.back s_7.agr ?_;refine RD.oneS 13 rfl ?_;refine RL.call rfl ok74 (c_tput A na fa nc fc hnc hfc R.m o.a o.b hu oa ob M w_7 hA) rfl rfl ?_;rintro _ w12 ⟨s13, nb, fb, ncb, fcb, B, r1, e1, M1, rfl, hu1, hnB, hfB, hB, hup, hpp⟩;have szG1 := G.size;have d_hB_b := upNe hup dA hbf.lt;have d_hB_b_4 := upNe hup d_hA_b_4 hb_4.lt;have d_hB_b_7 := upNe hup d_hA_b_7 hb_7.lt
    have dBb : ∀ k, M1 k → k ≠ b := d_hB_b
    have G := G.trans s13.agr;have hbf := hbf.sub s13;have hA := hA.sub s13;have hF := hF.sub s13;have hb_3 := hb_3.sub s13;have hb_4 := hb_4.sub s13;have szD := Nat.le_trans szD s13.size;have hb_7 := hb_7.sub s13;refine RD.back s13.agr ?_;refine RD.tS 14 rfl (fun w' s' => .move rfl) ?_;refine RD.tS 15 rfl (fun w' s' => .extract rfl rfl) ?_;refine RD.tS 16 rfl (fun w' s' => .as (v' := .int .u64 r1) (.extract rfl rfl) (by rfl)) ?_;refine RD.tS 17 rfl (fun w' s' => .as (v' := .int .i64 e1) (.extract rfl rfl) (by rfl)) ?_;refine RD.oneS 19 rfl ?_;refine RL.stS sh26 rfl rfl rfl hb_7 (fun w14 z14 hb_7 a14 => ?_)
    have G := agNew G a14 geG_7
    have hbf := hbf.upd a14 n__7;have hA := hA.updD a14 d_hA_b_7;have hF := hF.updD a14 d_hF_b_7;have hb_3 := hb_3.upd a14 n_3__7;have hb_4 := hb_4.upd a14 n_4__7;have szD := Nat.le_trans szD a14.size;have hB := hB.updD a14 d_hB_b_7
    have hb_7 : Has w14 b_7 (wvA nb fb ncb fcb B) _ := hb_7.now (by kernel_rfl)
    refine RD.backW rfl (a14.mono fun k _ e => e ▸ (.inr fr_b_7)) ?_;refine RD.tS 20 rfl (fun w' s' => .assign rfl) ?_;refine RD.tS 21 rfl (fun w' s' => .assign rfl) ?_
    exact RD.done (by kernel_rfl) (fun a ka => ⟨⟨b_7, B, r1, e1, nb, fb, ncb, fcb, M1⟩, ⟨⟨(by first | exact n_4__7 | exact n_7__4.symm), (by first | exact n__7 | exact n_7__.symm), hnB, hfB, hu1, hpp, fun k h => (hup k h).elim (fun h => .inl (hMC k h)) (fun h => .inr (Nat.le_trans szG1 h))⟩, d_hB_b_4, dBb, hb_4, hb_7, hB, hF, G⟩, ka.keep (keep_of (by repeat (first | exact trivial | refine And.intro rfl ?_)))⟩)
  obtain ⟨b_7, B, r1, e1, nb, fb, ncb, fcb, M1⟩ := z
  obtain ⟨⟨nm4, nmb, hnB, hfB, hu1, hpp, hupM⟩, d_hB_b_4, dBb, hb_4, hb_7, hB, hF, G⟩ := hJ
  simp only [] at nm4 nmb hnB hfB hu1 hpp hupM d_hB_b_4 dBb hb_7 hB
  refine RC.seq (RC.seq ?_);refine RC.drawD (fun k => k = b) [8, 8] w6.heap.size 9 rfl rfl mxo (fun w15 s16 => ?_);have ltD_b_7 := hb_7.lt;have szD := Nat.le_refl w6.heap.size;have G := G.trans s16.agr;have hb_4 := hb_4.sub s16;have hb_7 := hb_7.sub s16;have hB := hB.sub s16;have hF := hF.sub s16;have szD := Nat.le_trans szD s16.size;refine RD.tS 0 rfl (fun w' s' => .move rfl) ?_;refine RD.tS 1 rfl (fun w' s' => .loadR (wvA nb fb ncb fcb B) sh26 rfl (hb_7.step s' (fun e => e.elim (fun e => nmb.symm e) (fun e => Nat.not_le.2 ltD_b_7 e))).row rfl) ?_;refine RD.tS 2 rfl (fun w' s' => .move rfl) ?_;refine RD.tS 3 rfl (fun w' s' => .nilCheck rfl) ?_;refine RD.tS 4 rfl (fun w' s' => .field0 fo109_1 rfl) ?_;refine RD.tS 5 rfl (fun w' s' => .field0 fo33_0 rfl) ?_;refine RD.tS 6 rfl (fun w' s' => .move rfl) ?_;refine RD.tS 7 rfl (fun w' s' => .move rfl) ?_;refine RD.oneS 8 rfl ?_;refine RL.call rfl ok75 (c_tookM b A R C nb fb ncb fcb B hnB hfB M1 r1 e1 w15 hF hB dBb) rfl rfl ?_;rintro _ w17 ⟨C1, hF1, ag, hc1⟩;have G := G.trans ag;have hb_4 := hb_4.upd ag n__4.symm;have szD := Nat.le_trans szD ag.size
  have dF4 : ∀ k, C1 k → k ≠ b_4 := (fun k hk e => (hc1 k hk).elim (fun h => d_hF_b_4 k h e) (fun h => d_hB_b_4 k h e))
  have hF := hF1
  have hup1 : Up C w C1 := (fun k hk => (hc1 k hk).elim .inl (hupM k))
  refine RD.backW rfl (ag.mono fun k _ e => .inl e) ?_;refine RD.done (by kernel_rfl) (RC.back ?_);refine RC.seq (RC.region rfl ?_);refine RL.mvS rfl ?_;refine RL.eS (.bin rfl rfl rfl) ?_;refine RL.nil (RC.back ?_);refine RC.cond_dec rfl (fun h19 => ?_) (fun h19 => ?_)
  ·
   have hn := h19
   refine RC.seq (RC.region rfl ?_);refine RL.mvS rfl ?_;refine RL.call rfl ok76 (c_tellR e1 0 0 w17) rfl rfl ?_;rintro _ w20 ⟨rfl, s21⟩;have G := G.trans s21.agr;have hb_4 := hb_4.sub s21;have hF := hF.sub s21;refine RL.stS sh38 rfl rfl rfl hb_4 (fun w22 z22 hb_4 a22 => ?_)
   have G := agNew G a22 geG_4
   have hF := hF.updD a22 dF4
   have hb_4 : Has w22 b_4 ((tellR e1 0 0).cells) _ := hb_4.now (by kernel_rfl)
   refine RL.nil (RC.back ?_);refine RC.done (rs := [.cell 4 38]) (vs := [_]) rfl rfl ⟨⟨_, rfl, .inr ⟨(tellR e1 0 0).cells, sh38, hb_4.row, rfl⟩⟩, trivial⟩ ?_
   exact ⟨_, B, r1, e1, C1, rfl, hF, G, hup1, hu1, v0, n0, hg, .inl ⟨k2, hpp, by rw [if_neg hn]⟩⟩
  ·
   have hn : n0 = 0 := Decidable.not_not.1 h19
   refine RC.skip (RC.back (RC.seq (RC.region rfl ?_)));refine RL.mvS rfl ?_;refine RL.mvS rfl ?_;refine RL.call rfl ok76 (c_tellR e1 1 v0 w17) rfl rfl ?_;rintro _ w23 ⟨rfl, s24⟩;have G := G.trans s24.agr;have hb_4 := hb_4.sub s24;have hF := hF.sub s24;refine RL.stS sh38 rfl rfl rfl hb_4 (fun w25 z25 hb_4 a25 => ?_)
   have G := agNew G a25 geG_4
   have hF := hF.updD a25 dF4
   have hb_4 : Has w25 b_4 ((tellR e1 1 v0).cells) _ := hb_4.now (by kernel_rfl)
   refine RL.nil (RC.back ?_);refine RC.done (rs := [.cell 4 38]) (vs := [_]) rfl rfl ⟨⟨_, rfl, .inr ⟨(tellR e1 1 v0).cells, sh38, hb_4.row, rfl⟩⟩, trivial⟩ ?_
   exact ⟨_, B, r1, e1, C1, rfl, hF, G, hup1, hu1, v0, n0, hg, .inl ⟨k2, hpp, by rw [if_pos hn]⟩⟩
 ·
  have k3 : o.kind = 3 := hk.resolve_left h5
  refine RC.seq (RC.region rfl ?_);refine RL.eS (.bin rfl rfl rfl) ?_;refine RL.asS rfl ?_;refine RL.nil (RC.back ?_);refine RC.cond_dec rfl (fun h26 => ?_) (fun h26 => ?_)
  ·
   have k3' := h26
   refine RC.cutx (α := MpS) (fun z => [(0, .pointer (some ⟨b, 0, none⟩)), (4, .pointer (some ⟨b_4, 0, none⟩)), (5, .int .i64 v0), (6, .int .i64 n0), (10, .pointer (some ⟨z.b7, 0, none⟩)), (11, .int .u64 z.r), (12, .int .i64 z.e)]) (fun z w27 => (b_4 ≠ z.b7 ∧ b ≠ z.b7 ∧ z.B.nodes.length ≤ z.ncb ∧ z.B.free.length ≤ z.fcb ∧ U64 z.r ∧ DelP A R.m o.a z.B z.r z.e ∧ (∀ k, z.M k → C k ∨ w.heap.size ≤ k)) ∧ (∀ k, z.M k → k ≠ b_4) ∧ (∀ k, z.M k → k ≠ b) ∧ Has w27 b_4 (⟨0, 0, 0⟩ : RsT).cells 38 ∧ Has w27 z.b7 (wvA z.nb z.fb z.ncb z.fcb z.B) 26 ∧ Ft z.M (fun u => ArR u z.nb z.fb z.B) w27 ∧ Ft C (WkO b A R C) w27 ∧ Agr (· = b) w w27) ?_ (fun z w27 hJ => ?_)
   ·
    refine RC.drawD (fun k => False) [17] w3.heap.size 20 rfl rfl mxo (fun w28 s29 => ?_);have ltD_b := hbf.lt;have ltD_b_3 := hb_3.lt;have szD := Nat.le_refl w3.heap.size;have G := G.trans s29.agr;have hbf := hbf.sub s29;have hA := hA.sub s29;have hF := hF.sub s29;have hb_3 := hb_3.sub s29;have hb_4 := hb_4.sub s29;have szD := Nat.le_trans szD s29.size;refine RD.tS 0 rfl (fun w' s' => .move rfl) ?_;refine RD.tS 1 rfl (fun w' s' => .nilCheck rfl) ?_;refine RD.tS 2 rfl (fun w' s' => .field0 fo109_0 rfl) ?_;refine RD.tS 3 rfl (fun w' s' => .loadR (wvA na fa nc fc A) sh26 rfl (row_pref (xs := wvA na fa nc fc A) (ys := [.int .u64 R.m, .int .u64 R.t, .int .u64 R.r, .int .u64 R.h]) (hbf.step s' (fun e => e.elim (fun e => e.elim) (fun e => Nat.not_le.2 ltD_b e)))) rfl) ?_;refine RD.tS 4 rfl (fun w' s' => .move rfl) ?_;refine RD.tS 5 rfl (fun w' s' => .nilCheck rfl) ?_;refine RD.tS 6 rfl (fun w' s' => .field0 fo109_1 rfl) ?_;refine RD.tS 7 rfl (fun w' s' => .field0 fo33_0 rfl) ?_;refine RD.tS 8 rfl (fun w' s' => .load1 sh31 rfl ((hbf.step s' (fun e => e.elim (fun e => e.elim) (fun e => Nat.not_le.2 ltD_b e))).cell rfl)) ?_;refine RD.tS 9 rfl (fun w' s' => .field0 fo35_2 rfl) ?_;refine RD.tS 10 rfl (fun w' s' => .load1 sh2 rfl ((hb_3.step s' (fun e => e.elim (fun e => e.elim) (fun e => Nat.not_le.2 ltD_b_3 e))).cell rfl)) ?_;refine RD.all [11, 16] (by kernel_rfl) rfl (RDs.cons rfl ?_ (RDs.cons rfl ?_ (RDs.nil)))
    ·
     refine RL.call rfl ok77 (c_tdel A na fa nc fc hnc hfc R.m o.a hu oa M w28 hA) rfl rfl ?_;rintro _ w30 ⟨s31, nb, fb, ncb, fcb, B, r1, e1, M1, rfl, hu1, hnB, hfB, hB, hup, hpp⟩;have szG1 := G.size;have d_hB_b := upNe hup dA hbf.lt;have d_hB_b_4 := upNe hup d_hA_b_4 hb_4.lt
     have dBb : ∀ k, M1 k → k ≠ b := d_hB_b
     have G := G.trans s31.agr;have hbf := hbf.sub s31;have hA := hA.sub s31;have hF := hF.sub s31;have hb_4 := hb_4.sub s31;have szD := Nat.le_trans szD s31.size;refine RD.back s31.agr ?_;refine RD.tS 12 rfl (fun w' s' => .move rfl) ?_;refine RD.tS 13 rfl (fun w' s' => .extract rfl rfl) ?_;refine RD.tS 14 rfl (fun w' s' => .as (v' := .int .u64 r1) (.extract rfl rfl) (by rfl)) ?_;refine RD.tS 15 rfl (fun w' s' => .as (v' := .int .i64 e1) (.extract rfl rfl) (by rfl)) ?_;refine RD.oneS 16 rfl ?_;refine RL.alloc ze26 rfl rfl (fun b_10 w_10 e_10 z_10 hb_10 s_10 => ?_)
     have fr_b_10 : w3.heap.size ≤ b_10 := by rw [e_10]; exact szD
     have n__10 := hbf.ne e_10;have n_4__10 := hb_4.ne e_10;have d_hA_b_10 := hA.neNew e_10;have d_hF_b_10 := hF.neNew e_10;have d_hB_b_10 := hB.neNew e_10
     have geG_10 := agLe G e_10
     have G := G.trans s_10.agr;have hbf := hbf.sub s_10;have hA := hA.sub s_10;have hF := hF.sub s_10;have hb_4 := hb_4.sub s_10;have szD := Nat.le_trans szD s_10.size;have hB := hB.sub s_10;refine RD.back s_10.agr ?_;refine RD.oneS 17 rfl ?_;refine RL.stS sh26 rfl rfl rfl hb_10 (fun w32 z32 hb_10 a32 => ?_)
     have G := agNew G a32 geG_10
     have hbf := hbf.upd a32 n__10;have hA := hA.updD a32 d_hA_b_10;have hF := hF.updD a32 d_hF_b_10;have hb_4 := hb_4.upd a32 n_4__10;have szD := Nat.le_trans szD a32.size;have hB := hB.updD a32 d_hB_b_10
     have hb_10 : Has w32 b_10 (wvA nb fb ncb fcb B) _ := hb_10.now (by kernel_rfl)
     refine RD.backW rfl (a32.mono fun k _ e => e ▸ (.inr fr_b_10)) ?_;refine RD.tS 18 rfl (fun w' s' => .assign rfl) ?_;refine RD.tS 19 rfl (fun w' s' => .assign rfl) ?_
     exact RD.done (by kernel_rfl) (fun a ka => ⟨⟨b_10, B, r1, e1, nb, fb, ncb, fcb, M1⟩, ⟨⟨(by first | exact n_4__10 | exact n_10__4.symm), (by first | exact n__10 | exact n_10__.symm), hnB, hfB, hu1, hpp, fun k h => (hup k h).elim (fun h => .inl (hMC k h)) (fun h => .inr (Nat.le_trans szG1 h))⟩, d_hB_b_4, dBb, hb_4, hb_10, hB, hF, G⟩, ka.keep (keep_of (by repeat (first | exact trivial | refine And.intro rfl ?_)))⟩)
    ·
     refine RL.alloc ze26 rfl rfl (fun b_10 w_10 e_10 z_10 hb_10 s_10 => ?_)
     have fr_b_10 : w3.heap.size ≤ b_10 := by rw [e_10]; exact szD
     have n__10 := hbf.ne e_10;have n_4__10 := hb_4.ne e_10;have d_hA_b_10 := hA.neNew e_10;have d_hF_b_10 := hF.neNew e_10
     have geG_10 := agLe G e_10
     have G := G.trans s_10.agr;have hbf := hbf.sub s_10;have hA := hA.sub s_10;have hF := hF.sub s_10;have hb_4 := hb_4.sub s_10;refine RD.back s_10.agr ?_;refine RD.oneS 11 rfl ?_;refine RL.call rfl ok77 (c_tdel A na fa nc fc hnc hfc R.m o.a hu oa M w_10 hA) rfl rfl ?_;rintro _ w33 ⟨s34, nb, fb, ncb, fcb, B, r1, e1, M1, rfl, hu1, hnB, hfB, hB, hup, hpp⟩;have szG1 := G.size;have d_hB_b := upNe hup dA hbf.lt;have d_hB_b_4 := upNe hup d_hA_b_4 hb_4.lt;have d_hB_b_10 := upNe hup d_hA_b_10 hb_10.lt
     have dBb : ∀ k, M1 k → k ≠ b := d_hB_b
     have G := G.trans s34.agr;have hF := hF.sub s34;have hb_4 := hb_4.sub s34;have hb_10 := hb_10.sub s34;refine RD.back s34.agr ?_;refine RD.tS 12 rfl (fun w' s' => .move rfl) ?_;refine RD.tS 13 rfl (fun w' s' => .extract rfl rfl) ?_;refine RD.tS 14 rfl (fun w' s' => .as (v' := .int .u64 r1) (.extract rfl rfl) (by rfl)) ?_;refine RD.tS 15 rfl (fun w' s' => .as (v' := .int .i64 e1) (.extract rfl rfl) (by rfl)) ?_;refine RD.oneS 17 rfl ?_;refine RL.stS sh26 rfl rfl rfl hb_10 (fun w35 z35 hb_10 a35 => ?_)
     have G := agNew G a35 geG_10
     have hF := hF.updD a35 d_hF_b_10;have hb_4 := hb_4.upd a35 n_4__10;have hB := hB.updD a35 d_hB_b_10
     have hb_10 : Has w35 b_10 (wvA nb fb ncb fcb B) _ := hb_10.now (by kernel_rfl)
     refine RD.backW rfl (a35.mono fun k _ e => e ▸ (.inr fr_b_10)) ?_;refine RD.tS 18 rfl (fun w' s' => .assign rfl) ?_;refine RD.tS 19 rfl (fun w' s' => .assign rfl) ?_
     exact RD.done (by kernel_rfl) (fun a ka => ⟨⟨b_10, B, r1, e1, nb, fb, ncb, fcb, M1⟩, ⟨⟨(by first | exact n_4__10 | exact n_10__4.symm), (by first | exact n__10 | exact n_10__.symm), hnB, hfB, hu1, hpp, fun k h => (hup k h).elim (fun h => .inl (hMC k h)) (fun h => .inr (Nat.le_trans szG1 h))⟩, d_hB_b_4, dBb, hb_4, hb_10, hB, hF, G⟩, ka.keep (keep_of (by repeat (first | exact trivial | refine And.intro rfl ?_)))⟩)
   obtain ⟨b_10, B, r1, e1, nb, fb, ncb, fcb, M1⟩ := z
   obtain ⟨⟨nm4, nmb, hnB, hfB, hu1, hpp, hupM⟩, d_hB_b_4, dBb, hb_4, hb_10, hB, hF, G⟩ := hJ
   simp only [] at nm4 nmb hnB hfB hu1 hpp hupM d_hB_b_4 dBb hb_10 hB
   refine RC.seq ?_;refine RC.drawD (fun k => k = b) [8, 8] w27.heap.size 9 rfl rfl mxo (fun w36 s37 => ?_);have ltD_b_10 := hb_10.lt;have G := G.trans s37.agr;have hb_4 := hb_4.sub s37;have hb_10 := hb_10.sub s37;have hB := hB.sub s37;have hF := hF.sub s37;refine RD.tS 0 rfl (fun w' s' => .move rfl) ?_;refine RD.tS 1 rfl (fun w' s' => .loadR (wvA nb fb ncb fcb B) sh26 rfl (hb_10.step s' (fun e => e.elim (fun e => nmb.symm e) (fun e => Nat.not_le.2 ltD_b_10 e))).row rfl) ?_;refine RD.tS 2 rfl (fun w' s' => .move rfl) ?_;refine RD.tS 3 rfl (fun w' s' => .nilCheck rfl) ?_;refine RD.tS 4 rfl (fun w' s' => .field0 fo109_1 rfl) ?_;refine RD.tS 5 rfl (fun w' s' => .field0 fo33_0 rfl) ?_;refine RD.tS 6 rfl (fun w' s' => .move rfl) ?_;refine RD.tS 7 rfl (fun w' s' => .move rfl) ?_;refine RD.oneS 8 rfl ?_;refine RL.call rfl ok75 (c_tookM b A R C nb fb ncb fcb B hnB hfB M1 r1 e1 w36 hF hB dBb) rfl rfl ?_;rintro _ w38 ⟨C1, hF1, ag, hc1⟩;have G := G.trans ag;have hb_4 := hb_4.upd ag n__4.symm
   have dF4 : ∀ k, C1 k → k ≠ b_4 := (fun k hk e => (hc1 k hk).elim (fun h => d_hF_b_4 k h e) (fun h => d_hB_b_4 k h e))
   have hF := hF1
   have hup1 : Up C w C1 := (fun k hk => (hc1 k hk).elim .inl (hupM k))
   refine RD.backW rfl (ag.mono fun k _ e => .inl e) ?_;refine RD.done (by kernel_rfl) (RC.back ?_);refine RC.seq (RC.region rfl ?_);refine RL.mvS rfl ?_;refine RL.mvS rfl ?_;refine RL.call rfl ok76 (c_tellR e1 v0 0 w38) rfl rfl ?_;rintro _ w40 ⟨rfl, s41⟩;have G := G.trans s41.agr;have hb_4 := hb_4.sub s41;have hF := hF.sub s41;refine RL.stS sh38 rfl rfl rfl hb_4 (fun w42 z42 hb_4 a42 => ?_)
   have G := agNew G a42 geG_4
   have hF := hF.updD a42 dF4
   have hb_4 : Has w42 b_4 ((tellR e1 v0 0).cells) _ := hb_4.now (by kernel_rfl)
   refine RL.nil (RC.back ?_);refine RC.done (rs := [.cell 4 38]) (vs := [_]) rfl rfl ⟨⟨_, rfl, .inr ⟨(tellR e1 v0 0).cells, sh38, hb_4.row, rfl⟩⟩, trivial⟩ ?_
   exact ⟨_, B, r1, e1, C1, rfl, hF, G, hup1, hu1, v0, n0, hg, .inr ⟨k3, hpp, rfl⟩⟩
  ·
   exact absurd k3 h26
def dig (key : Int) (lv : Nat) : Nat := hashOf key / 4 ^ lv % 4
theorem dig_lt (key : Int) (lv : Nat) : dig key lv < 4 := Nat.mod_lt _ (by decide)
def hN (kind g n v s : Int) (ks : List Int) : Node := ⟨kind, g, n, v, s, ks.getD 0 0, ks.getD 1 0, ks.getD 2 0, ks.getD 3 0, ks.getD 4 0, ks.getD 5 0, ks.getD 6 0, ks.getD 7 0, ks.getD 8 0, 0, 0⟩
def ofL (lv i : Nat) (l : List It) : List It := l.filter fun x => decide (dig x.k lv = i)
theorem ofL_mem {lv i : Nat} {l : List It} {x : It} : x ∈ ofL lv i l ↔ x ∈ l ∧ dig x.k lv = i := by unfold ofL; rw [List.mem_filter, decide_eq_true_iff]
def Ap (l : List It) : Prop := l.Pairwise fun x y => ¬ x.k = y.k
theorem Ap.perm {l m : List It} (h : Ap l) (p : l.Perm m) : Ap m := (List.Perm.pairwise_iff (fun h e => h e.symm) p).1 h
theorem Ap.filter {l : List It} (h : Ap l) (p : It → Bool) : Ap (l.filter p) := List.Pairwise.filter p h
theorem Srt.ap {l : List It} (h : Srt l) : Ap l := List.Pairwise.imp (fun h e => by omega) h
theorem Ap.key {l : List It} (h : Ap l) {x y : It} (hx : x ∈ l) (hy : y ∈ l) (e : x.k = y.k) : x = y := by
  induction l with
  | nil => cases hx
  | cons z l ih =>
    obtain ⟨h1, h2⟩ := List.pairwise_cons.1 h
    rcases List.mem_cons.1 hx with e1 | e1 <;> rcases List.mem_cons.1 hy with e2 | e2
    · rw [e1, e2]
    · exact absurd (e1 ▸ e) (h1 y e2)
    · exact absurd (e2 ▸ e.symm) (h1 x e1)
    · exact ih h2 e1 e2
def lfA (A : Ar) (r : Int) (x : It) : Prop := ∃ g, getA A r = some (hN 3 g x.k x.v 0 [])
def Clash (A : Ar) (r : Int) (l : List It) : Prop := ∃ g ks m, List.Perm m l ∧ Srt m ∧ m.length ≤ 9 ∧ ks.length = m.length ∧ getA A r = some (hN 4 g 0 0 m.length ks) ∧ ∀ i x, m[i]? = some x → lfA A (ks.getD i 0) x
def IsH (A : Ar) : Nat → Int → List It → Prop
  | 0, r, l => (l = [] ∧ r = 0) ∨ (∃ x, l = [x] ∧ lfA A r x) ∨ (2 ≤ l.length ∧ Clash A r l)
  | k + 1, r, l => (l = [] ∧ r = 0) ∨ (∃ x, l = [x] ∧ lfA A r x) ∨ (2 ≤ l.length ∧ ∃ g ks, ks.length = 4 ∧ getA A r = some (hN 2 g 0 0 l.length ks) ∧ ∀ i, i < 4 → IsH A k (ks.getD i 0) (ofL (9 - k) i l))
theorem isH_nil {A : Ar} {k : Nat} {r : Int} : IsH A k r [] ↔ r = 0 := by
  cases k with
  | zero =>
    constructor
    · rintro (⟨_, h⟩ | ⟨x, h, _⟩ | ⟨h, _⟩)
      · exact h
      · cases h
      · simp at h
    · exact fun h => .inl ⟨rfl, h⟩
  | succ k =>
    constructor
    · rintro (⟨_, h⟩ | ⟨x, h, _⟩ | ⟨h, _⟩)
      · exact h
      · cases h
      · simp at h
    · exact fun h => .inl ⟨rfl, h⟩
theorem isH_one {A : Ar} {k : Nat} {r : Int} {x : It} : IsH A k r [x] ↔ lfA A r x := by
  cases k with
  | zero =>
    constructor
    · rintro (⟨h, _⟩ | ⟨y, h, h2⟩ | ⟨h, _⟩)
      · cases h
      · cases h; exact h2
      · simp at h
    · exact fun h => .inr (.inl ⟨x, rfl, h⟩)
  | succ k =>
    constructor
    · rintro (⟨h, _⟩ | ⟨y, h, h2⟩ | ⟨h, _⟩)
      · cases h
      · cases h; exact h2
      · simp at h
    · exact fun h => .inr (.inl ⟨x, rfl, h⟩)
theorem isH_trie {A : Ar} {k : Nat} {r : Int} {l : List It} (hl : 2 ≤ l.length) : IsH A (k + 1) r l ↔ ∃ g ks, ks.length = 4 ∧ getA A r = some (hN 2 g 0 0 l.length ks) ∧ ∀ i, i < 4 → IsH A k (ks.getD i 0) (ofL (9 - k) i l) := by
  constructor
  · rintro (⟨h, _⟩ | ⟨y, h, h2⟩ | ⟨h, h2⟩)
    · rw [h] at hl; simp at hl
    · rw [h] at hl; simp at hl
    · exact h2
  · exact fun h => .inr (.inr ⟨hl, h⟩)
theorem isH_clash {A : Ar} {r : Int} {l : List It} (hl : 2 ≤ l.length) : IsH A 0 r l ↔ Clash A r l := by
  constructor
  · rintro (⟨h, _⟩ | ⟨y, h, h2⟩ | ⟨h, h2⟩)
    · rw [h] at hl; simp at hl
    · rw [h] at hl; simp at hl
    · exact h2
  · exact fun h => .inr (.inr ⟨hl, h⟩)
theorem row_cases (l : List It) : l = [] ∨ (∃ x, l = [x]) ∨ 2 ≤ l.length := by
  rcases l with _ | ⟨x, _ | ⟨y, l⟩⟩
  · exact .inl rfl
  · exact .inr (.inl ⟨x, rfl⟩)
  · exact .inr (.inr (by simp))
theorem Clash.perm {A : Ar} {r : Int} {l m : List It} (h : Clash A r l) (p : l.Perm m) : Clash A r m := by
  obtain ⟨g, ks, q, h1, h2⟩ := h
  exact ⟨g, ks, q, h1.trans p, h2⟩
theorem IsH.perm {A : Ar} : ∀ {k : Nat} {r : Int} {l m : List It}, IsH A k r l → l.Perm m → IsH A k r m
  | k, r, l, m, h, p => by
    rcases row_cases l with rfl | ⟨x, rfl⟩ | hl
    · rw [List.Perm.nil_eq p.symm.symm] at h; exact h
    · rw [← List.Perm.singleton_eq p]; exact h
    · have hm : 2 ≤ m.length := by rw [← p.length_eq]; exact hl
      cases k with
      | zero => exact (isH_clash hm).2 (((isH_clash hl).1 h).perm p)
      | succ k =>
        obtain ⟨g, ks, h1, h2, h3⟩ := (isH_trie hl).1 h
        exact (isH_trie hm).2 ⟨g, ks, h1, by rw [← p.length_eq]; exact h2, fun i hi => IsH.perm (h3 i hi) (p.filter _)⟩
theorem lfA.ext {A B : Ar} {r : Int} {x : It} (h : lfA A r x) (e : Ext A B) : lfA B r x := by
  obtain ⟨g, h⟩ := h; exact ⟨g, e.get h⟩
theorem IsH.ext {A B : Ar} (e : Ext A B) : ∀ {k : Nat} {r : Int} {l : List It}, IsH A k r l → IsH B k r l
  | k, r, l, h => by
    rcases row_cases l with rfl | ⟨x, rfl⟩ | hl
    · exact isH_nil.2 (isH_nil.1 h)
    · exact isH_one.2 ((isH_one.1 h).ext e)
    · cases k with
      | zero =>
        obtain ⟨g, ks, q, h1, h2, h3, h4, h5, h6⟩ := (isH_clash hl).1 h
        exact (isH_clash hl).2 ⟨g, ks, q, h1, h2, h3, h4, e.get h5, fun i x hx => (h6 i x hx).ext e⟩
      | succ k =>
        obtain ⟨g, ks, h1, h2, h3⟩ := (isH_trie hl).1 h
        exact (isH_trie hl).2 ⟨g, ks, h1, e.get h2, fun i hi => IsH.ext e (h3 i hi)⟩
theorem getA_right {A : Ar} {r : Int} {x : Node} (h : getA A r = some x) : rightR r = true := by
  have h2 := (getA_rng h).1
  refine Classical.byContradiction fun e => ?_
  rw [placeR_not (fun hn : nodeR r => e hn.2)] at h2
  omega
theorem getA_z (A : Ar) : getA A 0 = none := getA_neg (.inl (by decide))
theorem getA_nz {A : Ar} {r : Int} {x : Node} (h : getA A r = some x) : ¬ r = 0 := fun e => by rw [e, getA_z] at h; cases h
def szH (A : Ar) (r : Int) : Int := if (getN A r).kind = 3 then 1 else (getN A r).s
theorem szH_z (A : Ar) : szH A 0 = 0 := by unfold szH getN; rw [getA_z]; rfl
theorem lfA.right {A : Ar} {r : Int} {x : It} (h : lfA A r x) : rightR r = true := by obtain ⟨g, h⟩ := h; exact getA_right h
theorem lfA.nz {A : Ar} {r : Int} {x : It} (h : lfA A r x) : ¬ r = 0 := by obtain ⟨g, h⟩ := h; exact getA_nz h
theorem lfA.getN {A : Ar} {r : Int} {x : It} (h : lfA A r x) : ∃ g, getN A r = hN 3 g x.k x.v 0 [] := by obtain ⟨g, h⟩ := h; exact ⟨g, getN_yes h⟩
theorem lfA.size {A : Ar} {r : Int} {x : It} (h : lfA A r x) : szH A r = 1 := by obtain ⟨g, h⟩ := h.getN; unfold szH; rw [h]; rfl
theorem IsH.node {A : Ar} {k : Nat} {r : Int} {l : List It} (hl : 2 ≤ l.length) (h : IsH A k r l) : ∃ kd g ks, (kd = 2 ∧ k ≠ 0 ∨ kd = 4 ∧ k = 0) ∧ getA A r = some (hN kd g 0 0 l.length ks) := by
  cases k with
  | zero =>
    obtain ⟨g, ks, q, h1, h2, h3, h4, h5, h6⟩ := (isH_clash hl).1 h
    exact ⟨4, g, ks, .inr ⟨rfl, rfl⟩, by rw [← h1.length_eq]; exact h5⟩
  | succ k =>
    obtain ⟨g, ks, h1, h2, h3⟩ := (isH_trie hl).1 h
    exact ⟨2, g, ks, .inl ⟨rfl, by omega⟩, h2⟩
theorem IsH.right {A : Ar} {k : Nat} {r : Int} {l : List It} (h : IsH A k r l) : rightR r = true := by
  rcases row_cases l with rfl | ⟨x, rfl⟩ | hl
  · rw [isH_nil.1 h]; exact (rightR_iff 0).2 (.inl rfl)
  · exact (isH_one.1 h).right
  · obtain ⟨_, _, _, _, h⟩ := h.node hl; exact getA_right h
theorem IsH.size {A : Ar} {k : Nat} {r : Int} {l : List It} (h : IsH A k r l) : szH A r = l.length := by
  rcases row_cases l with rfl | ⟨x, rfl⟩ | hl
  · rw [isH_nil.1 h]; exact szH_z A
  · exact (isH_one.1 h).size
  · obtain ⟨kd, g, ks, hk, h⟩ := h.node hl
    unfold szH
    rw [getN_yes h]
    rcases hk with ⟨rfl, _⟩ | ⟨rfl, _⟩ <;> rfl
theorem IsH.zero {A : Ar} {k : Nat} {r : Int} {l : List It} (h : IsH A k r l) : r = 0 ↔ l = [] := by
  constructor
  · intro e
    have h2 := h.size
    rw [e, szH_z] at h2
    exact List.eq_nil_of_length_eq_zero (by omega)
  · rintro rfl; exact isH_nil.1 h
theorem part_perm (lv : Nat) : ∀ l : List It, (ofL lv 0 l ++ (ofL lv 1 l ++ (ofL lv 2 l ++ ofL lv 3 l))).Perm l
  | [] => List.Perm.refl _
  | x :: l => by
    have ih := part_perm lv l
    have hd := dig_lt x.k lv
    have e : ∀ i, ofL lv i (x :: l) = if dig x.k lv = i then x :: ofL lv i l else ofL lv i l := fun i => by
      unfold ofL; rw [List.filter_cons]; by_cases q : dig x.k lv = i
      · rw [if_pos (by simpa using q), if_pos q]
      · rw [if_neg (by simpa using q), if_neg q]
    rcases (show dig x.k lv = 0 ∨ dig x.k lv = 1 ∨ dig x.k lv = 2 ∨ dig x.k lv = 3 by omega) with q | q | q | q <;> rw [e, e, e, e, q] <;> simp only [if_true, Nat.zero_ne_one, if_false, show (0 : Nat) ≠ 2 by decide, show (0 : Nat) ≠ 3 by decide, show (1 : Nat) ≠ 0 by decide, show (1 : Nat) ≠ 2 by decide, show (1 : Nat) ≠ 3 by decide, show (2 : Nat) ≠ 0 by decide, show (2 : Nat) ≠ 1 by decide, show (2 : Nat) ≠ 3 by decide, show (3 : Nat) ≠ 0 by decide, show (3 : Nat) ≠ 1 by decide, show (3 : Nat) ≠ 2 by decide]
    · exact List.Perm.cons x ih
    · exact (List.perm_middle).trans (List.Perm.cons x ih)
    · rw [← List.append_assoc]
      refine (List.perm_middle).trans (List.Perm.cons x ?_)
      rw [List.append_assoc]; exact ih
    · rw [← List.append_assoc, ← List.append_assoc]
      refine (List.perm_middle).trans (List.Perm.cons x ?_)
      rw [List.append_assoc, List.append_assoc]; exact ih
theorem part_len (lv : Nat) (l : List It) : (ofL lv 0 l).length + (ofL lv 1 l).length + (ofL lv 2 l).length + (ofL lv 3 l).length = l.length := by
  have := (part_perm lv l).length_eq
  simp only [List.length_append] at this
  omega
def Fam (lv d : Nat) (l : List It) : Prop := ∀ x ∈ l, hashOf x.k % 4 ^ lv = d
theorem fam_0 (l : List It) : Fam 0 0 l := fun x _ => by rw [Nat.pow_zero, Nat.mod_one]
theorem hash_succ (key : Int) (lv : Nat) : hashOf key % 4 ^ (lv + 1) = hashOf key % 4 ^ lv + 4 ^ lv * dig key lv := by
  rw [Nat.pow_succ]; exact Nat.mod_mul
theorem Fam.of {lv d i : Nat} {l : List It} (h : Fam lv d l) : Fam (lv + 1) (d + 4 ^ lv * i) (ofL lv i l) := by
  intro x hx
  obtain ⟨h1, h2⟩ := ofL_mem.1 hx
  rw [hash_succ, h x h1, h2]
theorem Fam.back {lv d i : Nat} {l : List It} (hd : d < 4 ^ lv) (hi : i < 4) (h : Fam (lv + 1) (d + 4 ^ lv * i) l) : Fam lv d l ∧ ∀ x ∈ l, dig x.k lv = i := by
  have hp : 0 < 4 ^ lv := Nat.pow_pos (by decide)
  have key : ∀ x ∈ l, hashOf x.k % 4 ^ lv = d ∧ dig x.k lv = i := fun x hx => by
    have h1 := h x hx
    rw [hash_succ] at h1
    have h2 : hashOf x.k % 4 ^ lv < 4 ^ lv := Nat.mod_lt _ hp
    have e1 : (hashOf x.k % 4 ^ lv + 4 ^ lv * dig x.k lv) / 4 ^ lv = dig x.k lv := by rw [Nat.add_mul_div_left _ _ hp, Nat.div_eq_of_lt h2, Nat.zero_add]
    have e2 : (d + 4 ^ lv * i) / 4 ^ lv = i := by rw [Nat.add_mul_div_left _ _ hp, Nat.div_eq_of_lt hd, Nat.zero_add]
    rw [h1, e2] at e1
    rw [← e1] at h1
    exact ⟨by omega, e1.symm⟩
  exact ⟨fun x hx => (key x hx).1, fun x hx => (key x hx).2⟩
theorem Fam.nil (lv d : Nat) : Fam lv d [] := fun x hx => by cases hx
theorem Fam.perm {lv d : Nat} {l m : List It} (h : Fam lv d l) (p : m.Perm l) : Fam lv d m := fun x hx => h x (p.mem_iff.1 hx)
theorem hash_shr (key : Int) (lv : Nat) (h : lv ≤ 10) : Value.int .i64 ((hashOf key : Int).fdiv (2 ^ min (Int.toNat ((2 * lv : Nat) : Int)) IntKind.i64.bits)) = .int .i64 ((hashOf key / 4 ^ lv : Nat) : Int) := by
  congr 1
  rw [show min (Int.toNat ((2 * lv : Nat) : Int)) IntKind.i64.bits = 2 * lv by simp [IntKind.bits]; omega]
  have h2 : ((2 : Int) ^ (2 * lv)) = ((4 ^ lv : Nat) : Int) := by rw [Int.natCast_pow, Int.pow_mul]; rfl
  rw [Int.fdiv_eq_ediv_of_nonneg _ (by rw [h2]; exact Int.natCast_nonneg _), h2, Int.natCast_ediv]
theorem and_3 (n : Nat) : Value.int .i64 (IntKind.i64.wrap ((BitVec.ofInt 64 (n : Int) &&& BitVec.ofInt 64 3).toNat : Int)) = .int .i64 ((n % 4 : Nat) : Int) := by
  congr 1
  have h : (BitVec.ofInt 64 (n : Int) &&& BitVec.ofInt 64 3).toNat = n % 4 := by
    rw [BitVec.toNat_and, BitVec.ofInt_natCast, BitVec.toNat_ofNat]
    show n % 2 ^ 64 &&& 2 ^ 2 - 1 = n % 4
    rw [Nat.and_two_pow_sub_one_eq_mod]
    omega
  rw [h, IntKind.wrap_i64]
  omega
theorem c_digit (key : Int) (lv : Nat) (hlv : lv ≤ 10) (w : World) : FC Tryz.prog 201 [.int .i64 key, .int .i64 (lv : Int)] w (Val (.int .i64 (dig key lv : Int)) w) := by
 have hh := hashOf_lt key
 refine FC.intro Tryz.func201 rfl Tryz.ntmps201 rfl ?_
 have S := Sub.refl w
 refine RC.seq (RC.region rfl ?_);refine RL.asS rfl ?_;refine RL.nil (RC.back (RC.seq (RC.region rfl ?_)));refine RL.mvS rfl ?_;refine RL.call rfl ok183 (c_hash key w) rfl rfl ?_;rintro _ w1 ⟨rfl, s2⟩;have S := S.trans s2;refine RL.mvS rfl ?_;refine RL.eS (.as (.bin rfl rfl rfl) (wi64 (y := ((2 * lv : Nat) : Int)) (by omega) (by omega))) ?_;refine RL.eS (.as (v' := .int .i64 ((hashOf key / 4 ^ lv : Nat) : Int)) (.shr rfl rfl (by omega)) (by exact hash_shr key lv hlv)) ?_;refine RL.eS (.as (v' := .int .i64 (dig key lv : Int)) (.bin rfl rfl rfl) (by exact and_3 _)) ?_;refine RL.asS rfl ?_;refine RL.nil (RC.back ?_);refine RC.d1 4 rfl rfl rfl ?_
 exact ⟨rfl, S⟩
abbrev Ho (b : Nat) (s : St) (C : Nat → Prop) (u : World) : Prop := FoG 195 b s C u
theorem c_hget (b : Nat) (s : St) (C : Nat → Prop) (r : Int) (hr : U64 r) (w : World) (hF : Ft C (Ho b s C) w) :
  FC Tryz.prog 200 [.pointer (some ⟨b, 0, none⟩), .int .u64 r] w (Val (getN s.1 r).val w) := by
 obtain ⟨hCb, na, fa, nc, fc, M, hbf, hnc, hfc, hA, hMb, hMC⟩ := hF.now
 obtain ⟨e, hgv⟩ := getN_v s.1 r
 have hA := hA.now
 refine FC.intro Tryz.func200 rfl Tryz.ntmps200 rfl ?_
 have S := Sub.refl w
 refine RC.seq (RC.region rfl ?_);refine RL.alloc ze140 rfl rfl (fun b_4 w_4 e_4 z_4 hb_4 s_4 => ?_);have ge_4 := S.le e_4;have S := S.trans s_4;have hbf := hbf.sub s_4;refine RL.nil (RC.back (RC.seq (RC.region rfl ?_)));refine RL.mvS rfl ?_;refine RL.eS (.nilCheck rfl) ?_;refine RL.eS (.field0 fo195_0 rfl) ?_;refine RL.eS (.loadR (wvA na fa nc fc s.1) sh26 rfl (row_pref (xs := wvA na fa nc fc s.1) (ys := [.int .i64 s.2]) hbf) rfl) ?_;refine RL.mvS rfl ?_;refine RL.call rfl ok125 (c_aGet s.1 na fa nc fc r hr w_4 (hA.sub S)) rfl rfl ?_;rintro _ w1 ⟨rfl, s2⟩;have S := S.trans s2;have hb_4 := hb_4.sub s2;refine RL.eS (.as (v' := .tuple #[(getN s.1 r).val, .int .i64 e]) (.move rfl) (by rw [hgv])) ?_;refine RL.eS (.extract rfl rfl) ?_;refine RL.eS (.extract rfl rfl) ?_;refine RL.alloc ze140 rfl rfl (fun b_5 w_5 e_5 z_5 hb_5 s_5 => ?_);have ge_5 := S.le e_5;have n_4__5 := hb_4.ne e_5;have S := S.trans s_5;have hb_4 := hb_4.sub s_5;refine RL.stS sh140 rfl rfl rfl hb_5 (fun w3 z3 hb_5 a3 => ?_);have S := S.upd a3 ge_5;have hb_4 := hb_4.upd a3 n_4__5
 have hb_5 : Has w3 b_5 ((getN s.1 r).cells) _ := hb_5.now (by kernel_rfl)
 refine RL.asS rfl ?_;refine RL.nil (RC.back (RC.seq (RC.region rfl ?_)));refine RL.eS (.loadR ((getN s.1 r).cells) sh140 rfl hb_5.row rfl) ?_;refine RL.stS sh140 rfl rfl rfl hb_4 (fun w4 z4 hb_4 a4 => ?_);have S := S.upd a4 ge_4
 have hb_4 : Has w4 b_4 ((getN s.1 r).cells) _ := hb_4.now (by kernel_rfl)
 refine RL.nil (RC.back ?_);refine RC.done (rs := [.cell 4 140]) (vs := [_]) rfl rfl ⟨⟨_, rfl, .inr ⟨(getN s.1 r).cells, sh140, hb_4.row, rfl⟩⟩, trivial⟩ ?_
 exact ⟨rfl, S⟩
theorem c_hsize (b : Nat) (s : St) (C : Nat → Prop) (r : Int) (hr : U64 r) (w : World) (hF : Ft C (Ho b s C) w) :
  FC Tryz.prog 136 [.pointer (some ⟨b, 0, none⟩), .int .u64 r] w (Val (.int .i64 (szH s.1 r)) w) := by
 refine FC.intro Tryz.func136 rfl Tryz.ntmps136 rfl ?_
 have S := Sub.refl w
 refine RC.seq (RC.region rfl ?_);refine RL.asS rfl ?_;refine RL.nil (RC.back (RC.seq (RC.region rfl ?_)));refine RL.mvS rfl ?_;refine RL.mvS rfl ?_;refine RL.call rfl ok200 (c_hget b s C r hr w hF) rfl rfl ?_;rintro _ w1 ⟨rfl, s2⟩;have S := S.trans s2;refine RL.alloc ze140 rfl rfl (fun b_5 w_5 e_5 z_5 hb_5 s_5 => ?_);have ge_5 := S.le e_5;have S := S.trans s_5;refine RL.stS sh140 rfl rfl rfl hb_5 (fun w3 z3 hb_5 a3 => ?_);have S := S.upd a3 ge_5
 have hb_5 : Has w3 b_5 ((getN s.1 r).cells) _ := hb_5.now (by kernel_rfl)
 refine RL.nil (RC.back (RC.seq (RC.seq (RC.region rfl ?_))));refine RL.eS (.field0 fo140_0 rfl) ?_;refine RL.eS (.load1 sh3 rfl (hb_5.cell rfl)) ?_;refine RL.eS (.bin rfl rfl rfl) ?_;refine RL.nil (RC.back ?_);refine RC.cond_dec rfl (fun h4 => ?_) (fun h4 => ?_)
 ·
  have hres : szH s.1 r = 1 := if_pos h4
  refine RC.seq (RC.region rfl ?_);refine RL.asS rfl ?_;refine RL.nil (RC.back ?_);refine RC.d1 4 rfl rfl rfl ?_
  rw [hres]
  exact ⟨rfl, S⟩
 ·
  have hres : szH s.1 r = (getN s.1 r).s := if_neg h4
  refine RC.skip (RC.back (RC.seq (RC.region rfl ?_)));refine RL.eS (.field0 fo140_4 rfl) ?_;refine RL.eS (.load1 sh2 rfl (hb_5.cell rfl)) ?_;refine RL.asS rfl ?_;refine RL.nil (RC.back ?_);refine RC.d1 4 rfl rfl rfl ?_
  rw [hres]
  exact ⟨rfl, S⟩
theorem hN_ok {kd g n v s : Int} {ks : List Int} (h1 : I64 kd) (h2 : I64 g) (h3 : I64 n) (h4 : I64 v) (h5 : I64 s) (h6 : ∀ k ∈ ks, U64 k) : (hN kd g n v s ks).ok := by
  have hz : ∀ i, U64 (ks.getD i 0) := fun i => by
    rw [List.getD_eq_getElem?_getD]
    cases h : ks[i]? with
    | none => exact zu64
    | some x => exact h6 x (List.mem_of_getElem? h)
  refine ⟨h1, h2, h3, h4, h5, ?_, z64, z64⟩
  intro k hk
  simp only [hN, Node.kids, List.mem_cons, List.not_mem_nil, or_false] at hk
  rcases hk with rfl | rfl | rfl | rfl | rfl | rfl | rfl | rfl | rfl <;> exact hz _
theorem c_hmake (bf : Nat) (s : St) (C : Nat → Prop) (x : Node) (hx : x.ok) (w : World) (hF : Ft C (Ho bf s C) w) :
    FC Tryz.prog 248 [.pointer (some ⟨bf, 0, none⟩), x.val] w (fun u w' => ∃ s' r C', u = .int .u64 r ∧ MkX s x s' r ∧ Ft C' (Ho bf s' C') w' ∧ Agr (· = bf) w w' ∧ Up C w C') := by
  obtain ⟨hCb, na, fa, nc, fc, M, hbf, hnc, hfc, hA, hMb, hMC⟩ := hF.now
  obtain ⟨A, bad⟩ := s
  simp only [] at hbf hnc hfc hA
  have dA : ∀ k, M k → k ≠ bf := fun k hk e => hMb (e ▸ hk)
  refine FC.intro Tryz.func248 rfl Tryz.ntmps248 rfl ?_
  have G : Agr (· = bf) w w := Agr.refl _ _
  refine RC.seq (RC.region rfl ?_);refine RL.box rfl rfl rfl (fun b_3 w_3 e_3 z_3 hb_3 s_3 => ?_);have G := G.trans s_3.agr;have hbf := hbf.sub s_3;have hA := hA.sub s_3;have hF := hF.sub s_3
  have hb_3 : Has w_3 b_3 (x.cells) _ := hb_3
  refine RL.asS rfl ?_;refine RL.nil (RC.back (RC.seq (RC.seq (RC.region rfl ?_))));refine RL.mvS rfl ?_;refine RL.eS (.nilCheck rfl) ?_;refine RL.eS (.field0 fo195_1 rfl) ?_;refine RL.eS (.load1 sh27 rfl (hbf.cell rfl)) ?_;refine RL.eS (.bin rfl rfl rfl) ?_;refine RL.nil (RC.back ?_);refine RC.cond_dec rfl (fun h1 => ?_) (fun h1 => ?_)
  ·
    have hbad : ¬ bad = 0 := h1
    refine RC.seq (RC.region rfl ?_);refine RL.asS rfl ?_;refine RL.nil (RC.back ?_);refine RC.d1 4 rfl rfl rfl ?_
    exact ⟨(A, bad), 0, C, rfl, .inl ⟨hbad, rfl, rfl⟩, hF, G, Up.refl _ _⟩
  ·
    have hbad : bad = 0 := Decidable.not_not.1 h1
    refine RC.skip (RC.back (RC.seq ?_));refine RC.drawD (fun k => False) [11] w_3.heap.size 14 rfl rfl mxo (fun w2 s3 => ?_);have ltD_bf := hbf.lt;have ltD_b_3 := hb_3.lt;have szD := Nat.le_refl w_3.heap.size;have G := G.trans s3.agr;have hbf := hbf.sub s3;have hA := hA.sub s3;have hb_3 := hb_3.sub s3;have szD := Nat.le_trans szD s3.size;refine RD.tS 0 rfl (fun w' s' => .move rfl) ?_;refine RD.tS 1 rfl (fun w' s' => .nilCheck rfl) ?_;refine RD.tS 2 rfl (fun w' s' => .field0 fo195_0 rfl) ?_;refine RD.tS 3 rfl (fun w' s' => .loadR (wvA na fa nc fc A) sh26 rfl (row_pref (xs := wvA na fa nc fc A) (ys := [.int .i64 bad]) (hbf.step s' (fun e => e.elim (fun e => e.elim) (fun e => Nat.not_le.2 ltD_bf e)))) rfl) ?_;refine RD.tS 4 rfl (fun w' s' => .loadR (x.cells) sh140 rfl (hb_3.step s' (fun e => e.elim (fun e => e.elim) (fun e => Nat.not_le.2 ltD_b_3 e))).row rfl) ?_;refine RD.all [5, 10] (by kernel_rfl) rfl (RDs.cons rfl ?_ (RDs.cons rfl ?_ (RDs.nil)))
    ·
      refine RL.call rfl ok219 (c_aMake A na fa nc fc x hx w2 hA.now hfc) rfl rfl ?_;rintro _ w4 ⟨s5, hr2⟩
      obtain ⟨nb, fb, ncb, fcb, B, rB, eB, rfl, hnB, hfB, hiB, he0, he1⟩ := make_form hr2
      have szGM := G.size;have d_hB_bf := neFt (w' := w4) dA hbf.lt
      have hB := hA.ans hiB s5
      have G := G.trans s5.agr;have hbf := hbf.sub s5;have hA := hA.sub s5;have szD := Nat.le_trans szD s5.size;refine RD.back s5.agr ?_;refine RD.tS 6 rfl (fun w' s' => .move rfl) ?_;refine RD.tS 7 rfl (fun w' s' => .extract rfl rfl) ?_;refine RD.tS 8 rfl (fun w' s' => .extract rfl rfl) ?_;refine RD.tS 9 rfl (fun w' s' => .extract rfl rfl) ?_;refine RD.oneS 10 rfl ?_;refine RL.alloc ze26 rfl rfl (fun b_5 w_5 e_5 z_5 hb_5 s_5 => ?_)
      have fr_b_5 : w_3.heap.size ≤ b_5 := by rw [e_5]; exact szD
      have nf__5 := hbf.ne e_5;have d_hA_b_5 := hA.neNew e_5;have d_hB_b_5 := hB.neNew e_5
      have geG_5 := agLe G e_5
      have G := G.trans s_5.agr;have hbf := hbf.sub s_5;have hA := hA.sub s_5;have szD := Nat.le_trans szD s_5.size;have hB := hB.sub s_5;refine RD.back s_5.agr ?_;refine RD.oneS 11 rfl ?_;refine RL.stS sh26 rfl rfl rfl hb_5 (fun w6 z6 hb_5 a6 => ?_)
      have G := agNew G a6 geG_5
      have hbf := hbf.upd a6 nf__5;have hA := hA.updD a6 d_hA_b_5;have szD := Nat.le_trans szD a6.size;have hB := hB.updD a6 d_hB_b_5
      have hb_5 : Has w6 b_5 ([.slice nb B.nodes.length ncb, .slice fb B.free.length fcb]) _ := hb_5.now (by kernel_rfl)
      refine RD.backW rfl (a6.mono fun k _ e => e ▸ (.inr fr_b_5)) ?_;refine RD.tS 12 rfl (fun w' s' => .assign rfl) ?_;refine RD.tS 13 rfl (fun w' s' => .assign rfl) ?_;refine RD.done (by kernel_rfl) (RC.back ?_);refine RC.seq (RC.seq (RC.region rfl ?_));refine RL.mvS rfl ?_;refine RL.mvS rfl ?_;refine RL.eS (.nilCheck rfl) ?_;refine RL.eS (.field0 fo195_1 rfl) ?_;refine RL.stS sh27 rfl rfl rfl hbf (fun w7 z7 hbf a7 => ?_);have G := G.trans a7;have hA := hA.updD a7 dA;have hB := hB.updD a7 d_hB_bf;have hb_5 := hb_5.upd a7 nf__5.symm
      have hbf : Has w7 bf (wvC na fa nc fc A eB) _ := hbf
      refine RL.nil (RC.back (RC.seq (RC.region rfl ?_)));refine RL.mvS rfl ?_;refine RL.eS (.bin rfl rfl rfl) ?_;refine RL.nil (RC.back ?_);refine RC.cond_dec rfl (fun h8 => ?_) (fun h8 => ?_)
      ·
        have he := h8
        refine RC.seq (RC.region rfl ?_);refine RL.asS rfl ?_;refine RL.nil (RC.back ?_);refine RC.d1 4 rfl rfl rfl ?_
        obtain ⟨rfl, rfl, hcs⟩ := he1 he
        refine ⟨(A, eB), 0, _, rfl, .inr (.inr ?_), FoG.ft hbf hnc hfc hA hMb, G, fun k hk => .inl (hk.elim (fun e => e ▸ hCb) (hMC k))⟩
        rcases hcs with ⟨h1, h2⟩ | ⟨h1, h2, h3⟩
        · exact .inr ⟨hbad, h1, by rw [h2], rfl⟩
        · exact .inl ⟨hbad, h1, h2, by rw [h3], rfl⟩
      ·
        have he : eB = 0 := Decidable.not_not.1 h8
        refine RC.skip (RC.back (RC.seq (RC.region rfl ?_)));refine RL.mvS rfl ?_;refine RL.eS (.loadR ([.slice nb B.nodes.length ncb, .slice fb B.free.length fcb]) sh26 rfl hb_5.row rfl) ?_;refine RL.eS (.nilCheck rfl) ?_;refine RL.eS (.field0 fo195_0 rfl) ?_;refine RL.stS sh26 rfl rfl rfl hbf (fun w9 z9 hbf a9 => ?_);have G := G.trans a9;have hA := hA.updD a9 dA;have hB := hB.updD a9 d_hB_bf;have hb_5 := hb_5.upd a9 nf__5.symm;refine RL.nil (RC.back (RC.seq (RC.region rfl ?_)));refine RL.mvS rfl ?_;refine RL.asS rfl ?_;refine RL.nil (RC.back ?_);refine RC.d1 4 rfl rfl rfl ?_
        obtain ⟨h1, h2, h3, h4⟩ := he0 he
        exact ⟨(B, eB), rB, _, rfl, .inr (.inl ⟨hbad, h1, h2, by rw [he, h3], h4⟩), FoG.ft hbf hnB hfB hB (fun e => d_hB_bf _ e rfl), G, fun k hk => hk.elim (fun e => .inl (e ▸ hCb)) (fun e => e.elim (fun e => .inl (hMC k e)) (fun e => .inr (Nat.le_trans szGM e.1)))⟩
    ·
      refine RL.alloc ze26 rfl rfl (fun b_5 w_5 e_5 z_5 hb_5 s_5 => ?_)
      have fr_b_5 : w_3.heap.size ≤ b_5 := by rw [e_5]; exact szD
      have nf__5 := hbf.ne e_5;have d_hA_b_5 := hA.neNew e_5
      have geG_5 := agLe G e_5
      have G := G.trans s_5.agr;have hbf := hbf.sub s_5;have hA := hA.sub s_5;refine RD.back s_5.agr ?_;refine RD.oneS 5 rfl ?_;refine RL.call rfl ok219 (c_aMake A na fa nc fc x hx w_5 hA.now hfc) rfl rfl ?_;rintro _ w10 ⟨s11, hr2⟩
      obtain ⟨nb, fb, ncb, fcb, B, rB, eB, rfl, hnB, hfB, hiB, he0, he1⟩ := make_form hr2
      have szGM := G.size;have d_hB_bf := neFt (w' := w10) dA hbf.lt;have d_hB_b_5 := neFt (w' := w10) d_hA_b_5 hb_5.lt
      have hB := hA.ans hiB s11
      have G := G.trans s11.agr;have hbf := hbf.sub s11;have hA := hA.sub s11;have hb_5 := hb_5.sub s11;refine RD.back s11.agr ?_;refine RD.tS 6 rfl (fun w' s' => .move rfl) ?_;refine RD.tS 7 rfl (fun w' s' => .extract rfl rfl) ?_;refine RD.tS 8 rfl (fun w' s' => .extract rfl rfl) ?_;refine RD.tS 9 rfl (fun w' s' => .extract rfl rfl) ?_;refine RD.oneS 11 rfl ?_;refine RL.stS sh26 rfl rfl rfl hb_5 (fun w12 z12 hb_5 a12 => ?_)
      have G := agNew G a12 geG_5
      have hbf := hbf.upd a12 nf__5;have hA := hA.updD a12 d_hA_b_5;have hB := hB.updD a12 d_hB_b_5
      have hb_5 : Has w12 b_5 ([.slice nb B.nodes.length ncb, .slice fb B.free.length fcb]) _ := hb_5.now (by kernel_rfl)
      refine RD.backW rfl (a12.mono fun k _ e => e ▸ (.inr fr_b_5)) ?_;refine RD.tS 12 rfl (fun w' s' => .assign rfl) ?_;refine RD.tS 13 rfl (fun w' s' => .assign rfl) ?_;refine RD.done (by kernel_rfl) (RC.back ?_);refine RC.seq (RC.seq (RC.region rfl ?_));refine RL.mvS rfl ?_;refine RL.mvS rfl ?_;refine RL.eS (.nilCheck rfl) ?_;refine RL.eS (.field0 fo195_1 rfl) ?_;refine RL.stS sh27 rfl rfl rfl hbf (fun w13 z13 hbf a13 => ?_);have G := G.trans a13;have hA := hA.updD a13 dA;have hb_5 := hb_5.upd a13 nf__5.symm;have hB := hB.updD a13 d_hB_bf
      have hbf : Has w13 bf (wvC na fa nc fc A eB) _ := hbf
      refine RL.nil (RC.back (RC.seq (RC.region rfl ?_)));refine RL.mvS rfl ?_;refine RL.eS (.bin rfl rfl rfl) ?_;refine RL.nil (RC.back ?_);refine RC.cond_dec rfl (fun h14 => ?_) (fun h14 => ?_)
      ·
        have he := h14
        refine RC.seq (RC.region rfl ?_);refine RL.asS rfl ?_;refine RL.nil (RC.back ?_);refine RC.d1 4 rfl rfl rfl ?_
        obtain ⟨rfl, rfl, hcs⟩ := he1 he
        refine ⟨(A, eB), 0, _, rfl, .inr (.inr ?_), FoG.ft hbf hnc hfc hA hMb, G, fun k hk => .inl (hk.elim (fun e => e ▸ hCb) (hMC k))⟩
        rcases hcs with ⟨h1, h2⟩ | ⟨h1, h2, h3⟩
        · exact .inr ⟨hbad, h1, by rw [h2], rfl⟩
        · exact .inl ⟨hbad, h1, h2, by rw [h3], rfl⟩
      ·
        have he : eB = 0 := Decidable.not_not.1 h14
        refine RC.skip (RC.back (RC.seq (RC.region rfl ?_)));refine RL.mvS rfl ?_;refine RL.eS (.loadR ([.slice nb B.nodes.length ncb, .slice fb B.free.length fcb]) sh26 rfl hb_5.row rfl) ?_;refine RL.eS (.nilCheck rfl) ?_;refine RL.eS (.field0 fo195_0 rfl) ?_;refine RL.stS sh26 rfl rfl rfl hbf (fun w15 z15 hbf a15 => ?_);have G := G.trans a15;have hB := hB.updD a15 d_hB_bf;refine RL.nil (RC.back (RC.seq (RC.region rfl ?_)));refine RL.mvS rfl ?_;refine RL.asS rfl ?_;refine RL.nil (RC.back ?_);refine RC.d1 4 rfl rfl rfl ?_
        obtain ⟨h1, h2, h3, h4⟩ := he0 he
        exact ⟨(B, eB), rB, _, rfl, .inr (.inl ⟨hbad, h1, h2, by rw [he, h3], h4⟩), FoG.ft hbf hnB hfB hB (fun e => d_hB_bf _ e rfl), G, fun k hk => hk.elim (fun e => .inl (e ▸ hCb)) (fun e => e.elim (fun e => .inl (hMC k e)) (fun e => .inr (Nat.le_trans szGM e.1)))⟩
theorem c_hleaf (bf : Nat) (s : St) (C : Nat → Prop) (key v : Int) (hk : I64 key) (hv : I64 v) (w : World) (hF : Ft C (Ho bf s C) w) :
  FC Tryz.prog 207 [.pointer (some ⟨bf, 0, none⟩), .int .i64 key, .int .i64 v] w (fun u w' => ∃ s' r C', u = .int .u64 r ∧ MkX s (hN 3 0 key v 0 []) s' r ∧ Ft C' (Ho bf s' C') w' ∧ Agr (· = bf) w w' ∧ Up C w C') := by
 refine FC.intro Tryz.func207 rfl Tryz.ntmps207 rfl ?_
 have G : Agr (· = bf) w w := Agr.refl _ _
 refine RC.seq (RC.region rfl ?_);refine RL.asS rfl ?_;refine RL.nil (RC.back (RC.seq (RC.region rfl ?_)));refine RL.mvS rfl ?_;refine RL.mvS rfl ?_;refine RL.mvS rfl ?_;refine RL.eS (.buildS ze140 pl140 rfl rfl) ?_;refine RL.call rfl ok248 (c_hmake bf s C (hN 3 0 key v 0 []) (hN_ok (by unfold I64; decide) z64 hk hv z64 (fun k h => by cases h)) w hF) rfl rfl ?_;rintro _ w1 ⟨s1, r1, C1, rfl, hm, hF1, ag, up⟩
 have up := up.le G.size
 have G := G.trans ag
 have hF := hF1
 refine RL.asS rfl ?_;refine RL.nil (RC.back ?_);refine RC.d1 6 rfl rfl rfl ?_
 exact ⟨s1, r1, C1, rfl, hm, hF, G, up⟩
def sumH (A : Ar) (ks : List Int) : Nat → Int
  | 0 => 0
  | i + 1 => IntKind.i64.wrap (sumH A ks i + szH A (ks.getD i 0))
theorem sumH_i64 (A : Ar) (ks : List Int) (i : Nat) : I64 (sumH A ks i) := by
  cases i with
  | zero => exact z64
  | succ i => unfold I64; show _ ≤ IntKind.i64.wrap _ ∧ IntKind.i64.wrap _ ≤ _; rw [IntKind.wrap_i64]; omega
theorem hN_blit (kd : Int) : ∀ ks : List Int, ks.length ≤ 9 → (blit ((hN kd 0 0 0 0 []).cells.map fun v => [v]) 5 ((ks.map fun x => [u6 x]).take (min ks.length 9))).flatten = (hN kd 0 0 0 0 ks).cells := by
  intro ks h
  rcases ks with _|⟨a, _|⟨b, _|⟨c, _|⟨d, _|⟨e, _|⟨f, _|⟨g, _|⟨i, _|⟨j, _|⟨k, ks⟩⟩⟩⟩⟩⟩⟩⟩⟩⟩
  all_goals first | rfl | (simp at h; omega)
def hC (kd s : Int) (ks : List Int) : List Value := (hN kd 0 0 0 s ks).cells
set_option maxHeartbeats 1000000 in
theorem c_hnode (bf : Nat) (s : St) (C : Nat → Prop) (kd : Int) (hkd : I64 kd) (ks : List Int) (hks : ∀ k ∈ ks, U64 k) (hl : ks.length ≤ 9) (ka : Option Addr) (m kc : Nat) (hm : m = ks.length) (M : Nat → Prop) (w : World) (hF : Ft C (Ho bf s C) w) (hK : Ft M (fun u => Sl u ka 1 (ks.map fun x => [u6 x])) w) :
  FC Tryz.prog 203 [.pointer (some ⟨bf, 0, none⟩), .int .i64 kd, .slice ka m kc] w (fun u w' => ∃ s' r C', u = .int .u64 r ∧ MkX s (hN kd 0 0 0 (sumH s.1 ks ks.length) ks) s' r ∧ Ft C' (Ho bf s' C') w' ∧ Agr (· = bf) w w' ∧ Up C w C') := by
 subst hm
 have hCb := hF.now.1
 refine FC.intro Tryz.func203 rfl Tryz.ntmps203 rfl ?_
 have G : Agr (· = bf) w w := Agr.refl _ _
 refine RC.seq (RC.region rfl ?_);refine RL.asS rfl ?_;refine RL.nil (RC.back (RC.seq (RC.region rfl ?_)));refine RL.mvS rfl ?_;refine RL.eS (.buildS ze140 pl140 rfl rfl) ?_;refine RL.alloc ze140 rfl rfl (fun b_7 w_7 e_7 z_7 hb_7 s_7 => ?_);have d_hF_b_7 := hF.neNew e_7;have d_hK_b_7 := hK.neNew e_7
 have geG_7 := agLe G e_7
 have G := G.trans s_7.agr;have hF := hF.sub s_7;have hK := hK.sub s_7;refine RL.stS sh140 rfl rfl rfl hb_7 (fun w1 z1 hb_7 a1 => ?_)
 have G := agNew G a1 geG_7
 have hF := hF.updD a1 d_hF_b_7;have hK := hK.updD a1 d_hK_b_7
 have hb_7 : Has w1 b_7 ((hN kd 0 0 0 0 []).cells) _ := hb_7.now (by kernel_rfl)
 have hb_7 : Has w1 b_7 ((hN kd 0 0 0 0 []).cells.map fun v => [v]).flatten 140 := hb_7
 refine RL.nil (RC.back (RC.seq (RC.region rfl ?_)));refine RL.eS (.field0 fo140_5 rfl) ?_;refine RL.eS (.as (v' := .slice (some ⟨b_7, 5 * 1, none⟩) 9 9) (.sliceArr ar138 rfl) (by rfl)) ?_;refine RL.mvS rfl ?_;refine RL.copyB (o := 5) (R := (hN kd 0 0 0 0 []).cells.map fun v => [v]) sl73 rfl rfl rfl hb_7 (fun r hr => by obtain ⟨z, _, rfl⟩ := List.mem_map.1 hr; rfl) (by simp [hN, Node.cells]; omega) hK.now (by rw [List.length_map]) (fun r hr => by obtain ⟨z, _, rfl⟩ := List.mem_map.1 hr; rfl) (by rw [List.all_eq_true]; intro r hr; obtain ⟨x, _, rfl⟩ := List.mem_map.1 (List.mem_of_mem_take hr); rfl) rfl rfl (fun w2 z15 hb_7 a15 => ?_)
 have G := agNew G a15 geG_7
 have hF := hF.updD a15 d_hF_b_7;have hK := hK.updD a15 d_hK_b_7
 rw [hN_blit kd ks hl] at hb_7
 refine RL.nil (RC.back (RC.seq (RC.seq (RC.region rfl ?_))));refine RL.mvS rfl ?_;refine RL.eS (.len sl73 rfl) ?_;refine RL.mvS rfl ?_;refine RL.nil (RC.back (RC.block ?_));refine RC.loop (α := Nat) (fun i => [(0, .pointer (some ⟨bf, 0, none⟩)), (7, .pointer (some ⟨b_7, 0, none⟩)), (16, .slice ka ks.length kc), (17, .int .i64 (ks.length : Int)), (18, .int .i64 (i : Int))]) (fun i w3 => i ≤ ks.length ∧ Has w3 b_7 (hN kd 0 0 0 (sumH s.1 ks i) ks).cells 140 ∧ Ft C (Ho bf s C) w3 ∧ Ft M (fun u => Sl u ka 1 (ks.map fun x => [u6 x])) w3 ∧ Agr (· = bf) w w3 ∧ b_7 ≠ bf ∧ (∀ k, C k → k ≠ b_7) ∧ (∀ k, M k → k ≠ b_7)) (fun i => ks.length - i) 0 (keep_of (by repeat (first | exact trivial | refine And.intro rfl ?_))) (⟨Nat.zero_le _, hb_7, hF, hK, G, fun e => d_hF_b_7 bf hCb e.symm, d_hF_b_7, d_hK_b_7⟩) (fun i w3 hJ => ?_)
 obtain ⟨hi, hb_7, hF, hK, G, n7, dF, dK⟩ := hJ
 refine RC.seq (RC.region rfl ?_);refine RL.eS (.bin rfl rfl rfl) ?_;refine RL.nil (RC.back (RC.seq ?_));refine RC.cond_dec rfl (fun h4 => ?_) (fun h4 => ?_)
 ·
  obtain ⟨x, hx⟩ := getSome (l := ks) (i := i) (by omega)
  have hgx : ks.getD i 0 = x := (by rw [List.getD_eq_getElem?_getD, hx]; rfl)
  refine RC.skip (RC.back (RC.seq (RC.block (RC.seq (RC.region rfl ?_)))));refine RL.eS (.indexS sl73 rfl rfl (by omega) (hK.now.is (i := 0) (by simp only [List.length_map, List.length_cons, List.length_nil]; omega))) ?_;refine RL.eS (.load1 sh31 rfl (hK.now.one (enc := u6) (i := i) hx)) ?_;refine RL.asS rfl ?_;refine RL.nil (RC.back ?_);refine RC.drawD (fun k => k = b_7) [7] w3.heap.size 8 rfl rfl mxo (fun w5 s6 => ?_);have ltD_b_7 := hb_7.lt;have G := G.trans s6.agr;have hF := hF.sub s6;have hK := hK.sub s6;have hb_7 := hb_7.sub s6;refine RD.tS 0 rfl (fun w' s' => .field0 fo140_4 rfl) ?_;refine RD.takeL 1 rfl (by kernel_rfl) (by kernel_rfl) (by kernel_rfl) (by kernel_rfl) (fun w' s' => .load1 sh2 rfl ((hb_7.step s' (fun e => Nat.not_le.2 ltD_b_7 e)).cell rfl)) rfl rfl ?_;refine RD.tS 2 rfl (fun w' s' => .move rfl) ?_;refine RD.tS 3 rfl (fun w' s' => .move rfl) ?_;refine RD.oneS 4 rfl ?_;refine RL.call rfl ok136 (c_hsize bf s C x (hks x (List.mem_of_getElem? hx)) w5 hF) rfl rfl ?_;rintro _ w7 ⟨rfl, s8⟩;have G := G.trans s8.agr;have hF := hF.sub s8;have hK := hK.sub s8;have hb_7 := hb_7.sub s8;refine RD.back s8.agr ?_;refine RD.tS 5 rfl (fun w' s' => .as (v' := .int .i64 (sumH s.1 ks (i + 1))) (.bin rfl rfl rfl) (by rw [sumH, hgx]; rfl)) ?_;refine RD.tS 6 rfl (fun w' s' => .field0 fo140_4 rfl) ?_;refine RD.oneS 7 rfl ?_;refine RL.stS sh2 rfl rfl rfl hb_7 (fun w9 z9 hb_7 a9 => ?_)
  have G := agNew G a9 geG_7
  have hF := hF.updD a9 dF;have hK := hK.updD a9 dK
  have hb_7 : Has w9 b_7 ((hN kd 0 0 0 (sumH s.1 ks (i + 1)) ks).cells) _ := hb_7
  refine RD.backW rfl (a9.mono fun k _ e => e ▸ (.inl (rfl))) ?_;refine RD.done (by kernel_rfl) (RC.back ?_);refine RC.region rfl ?_;refine RL.eS (.as (.bin rfl rfl rfl) (wi64 (y := ((i + 1 : Nat) : Int)) (by omega) (by omega))) ?_;refine RL.mvS rfl ?_
  exact RL.nil (fun a ka => ⟨i + 1, ⟨by omega, hb_7, hF, hK, G, n7, dF, dK⟩, by omega, ka.keep (keep_of (by repeat (first | exact trivial | refine And.intro rfl ?_)))⟩)
 ·
  obtain rfl : i = ks.length := (by omega)
  refine RC.exit rfl (RC.back (RC.seq (RC.region rfl ?_)));refine RL.mvS rfl ?_;refine RL.eS (.loadR ((hN kd 0 0 0 (sumH s.1 ks ks.length) ks).cells) sh140 rfl (hb_7.row) rfl) ?_;refine RL.call rfl ok248 (c_hmake bf s C (hN kd 0 0 0 (sumH s.1 ks ks.length) ks) (hN_ok hkd z64 z64 z64 (sumH_i64 _ _ _) hks) w3 hF) rfl rfl ?_;rintro _ w10 ⟨s1, r1, C1, rfl, hm, hF1, ag, up⟩
  have up := up.le G.size
  have G := G.trans ag
  have hF := hF1
  refine RL.asS rfl ?_;refine RL.nil (RC.back ?_);refine RC.d1 6 rfl rfl rfl ?_
  exact ⟨s1, r1, C1, rfl, hm, hF, G, up⟩
def putM (L : List It) (key v : Int) : List It := ⟨key, v⟩ :: delL L key
section
variable {L M : List It} {key v : Int}
theorem delL_mem {y : It} : y ∈ delL L key ↔ y ∈ L ∧ ¬ y.k = key := by unfold delL; rw [List.mem_filter, decide_eq_true_iff]
theorem putM_perm (p : L.Perm M) : (putM L key v).Perm (putM M key v) := List.Perm.cons _ (p.filter _)
theorem delL_perm (p : L.Perm M) : (delL L key).Perm (delL M key) := p.filter _
theorem Ap.del (h : Ap L) : Ap (delL L key) := h.filter _
theorem Ap.put (h : Ap L) : Ap (putM L key v) := List.pairwise_cons.2 ⟨fun y hy e => (delL_mem.1 hy).2 e.symm, h.del⟩
theorem delL_none (h : ∀ x ∈ L, ¬ x.k = key) : delL L key = L := filter_all fun y hy => by simpa using h y hy
theorem delL_len (h : Ap L) : (delL L key).length + (if hasK L key then 1 else 0) = L.length := by
  induction L with
  | nil => rfl
  | cons x L ih =>
    obtain ⟨h1, h2⟩ := List.pairwise_cons.1 h
    by_cases e : x.k = key
    · have h3 : delL L key = L := delL_none fun y hy e2 => h1 y hy (by omega)
      have h4 : hasK (x :: L) key = true := hasK_iff.2 ⟨x, by simp, e⟩
      have h5 : delL (x :: L) key = delL L key := by unfold delL; rw [List.filter_cons, if_neg (by simpa using e)]
      rw [h4, h5, h3]; rfl
    · have h4 : hasK (x :: L) key = hasK L key := by simp [hasK, e]
      have h5 : delL (x :: L) key = x :: delL L key := by unfold delL; rw [List.filter_cons, if_pos (by simpa using e)]
      rw [h4, h5, List.length_cons, List.length_cons, ← ih h2]; omega
theorem putM_len (h : Ap L) : (putM L key v).length + (if hasK L key then 1 else 0) = L.length + 1 := by
  have := delL_len (key := key) h
  unfold putM
  rw [List.length_cons]; omega
theorem del_parts (key : Int) : ∀ L : List It, (delL L key).Perm (ltL key L ++ gtL key L)
  | [] => List.Perm.refl _
  | x :: L => by
    have ih := del_parts key L
    unfold delL ltL gtL at ih ⊢
    simp only [List.filter_cons]
    rcases Int.lt_trichotomy x.k key with h | h | h
    · rw [if_pos (by simp; omega), if_pos (by simpa using h), if_neg (by simp; omega)]
      exact List.Perm.cons x ih
    · rw [if_neg (by simp; omega), if_neg (by simp; omega), if_neg (by simp; omega)]
      exact ih
    · rw [if_pos (by simp; omega), if_neg (by simp; omega), if_pos (by simpa using h)]
      exact (List.Perm.cons x ih).trans List.perm_middle.symm
theorem putL_putM : (putL L key v).Perm (putM L key v) := by
  unfold putL putM
  exact List.perm_middle.trans (List.Perm.cons _ (del_parts key L).symm)
variable {lv i : Nat}
theorem ofL_del : ofL lv i (delL L key) = delL (ofL lv i L) key := by
  unfold ofL delL
  rw [List.filter_filter, List.filter_filter]
  exact List.filter_congr fun x _ => Bool.and_comm _ _
theorem ofL_del_ne (h : ¬ dig key lv = i) : ofL lv i (delL L key) = ofL lv i L := by
  rw [ofL_del]
  exact delL_none fun x hx e => h (by rw [← e]; exact (ofL_mem.1 hx).2)
theorem ofL_put (h : dig key lv = i) : ofL lv i (putM L key v) = putM (ofL lv i L) key v := by
  have e : ofL lv i (putM L key v) = ⟨key, v⟩ :: ofL lv i (delL L key) := by
    show List.filter _ (_ :: _) = _
    rw [List.filter_cons, if_pos (by simpa using h)]; rfl
  rw [e, ofL_del]; rfl
theorem ofL_put_ne (h : ¬ dig key lv = i) : ofL lv i (putM L key v) = ofL lv i L := by
  have e : ofL lv i (putM L key v) = ofL lv i (delL L key) := by
    show List.filter _ (_ :: _) = _
    rw [List.filter_cons, if_neg (by simpa using h)]; rfl
  rw [e, ofL_del_ne h]
theorem Ap.of (h : Ap L) (lv i : Nat) : Ap (ofL lv i L) := h.filter _
end
def cnt : Nat → List It → Nat
  | 0, l => if l.length ≤ 1 then l.length else 1 + l.length
  | k + 1, l => if l.length ≤ 1 then l.length else 1 + (cnt k (ofL (9 - k) 0 l) + cnt k (ofL (9 - k) 1 l) + cnt k (ofL (9 - k) 2 l) + cnt k (ofL (9 - k) 3 l))
theorem cnt_few {k : Nat} {l : List It} (h : l.length ≤ 1) : cnt k l = l.length := by cases k <;> (rw [cnt]; exact if_pos h)
theorem cnt_0 {l : List It} (h : 2 ≤ l.length) : cnt 0 l = 1 + l.length := by rw [cnt]; exact if_neg (by omega)
theorem cnt_s {k : Nat} {l : List It} (h : 2 ≤ l.length) : cnt (k + 1) l = 1 + (cnt k (ofL (9 - k) 0 l) + cnt k (ofL (9 - k) 1 l) + cnt k (ofL (9 - k) 2 l) + cnt k (ofL (9 - k) 3 l)) := by rw [cnt]; exact if_neg (by omega)
theorem cnt_perm : ∀ {k : Nat} {l m : List It}, l.Perm m → cnt k l = cnt k m
  | k, l, m, p => by
    have e := p.length_eq
    by_cases h : l.length ≤ 1
    · rw [cnt_few h, cnt_few (by omega), e]
    · cases k with
      | zero => rw [cnt_0 (by omega), cnt_0 (by omega), e]
      | succ k =>
        have q : ∀ i, cnt k (ofL (9 - k) i l) = cnt k (ofL (9 - k) i m) := fun i => cnt_perm (k := k) (p.filter _)
        rw [cnt_s (by omega), cnt_s (by omega), q, q, q, q]
theorem cnt_of {k i : Nat} {l : List It} (h : 2 ≤ l.length) (hi : i < 4) : 1 + cnt k (ofL (9 - k) i l) ≤ cnt (k + 1) l := by
  rw [cnt_s h]
  rcases (show i = 0 ∨ i = 1 ∨ i = 2 ∨ i = 3 by omega) with rfl | rfl | rfl | rfl <;> omega
theorem hN_may {A : Ar} {kd n v s : Int} {ks : List Int} (hA : AOk A) (h1 : 1 ≤ kd) (h2 : kd ≤ 100) (h : ∀ k ∈ ks, rightR k = true) : mayMake A (hN kd 0 n v s ks) := by
  refine ⟨hA, h1, h2, (well_iff _).2 ⟨⟨Int.le_refl 0, (show (0 : Int) ≤ 1048576 by omega), Int.le_refl 0, (show (0 : Int) ≤ 9 by omega), Int.le_refl 0, (show (0 : Int) ≤ 9 by omega)⟩, ?_⟩⟩
  have hz : ∀ i, rightR (ks.getD i 0) = true := fun i => by
    rw [List.getD_eq_getElem?_getD]
    cases h2 : ks[i]? with
    | none => exact (rightR_iff 0).2 (.inl rfl)
    | some x => exact h x (List.mem_of_getElem? h2)
  simp only [x0, hN, Node.kids, List.all_cons, List.all_nil, hz, Bool.and_true]
theorem getD_of {l : List Int} {x : Int} (h : x ∈ l) : ∃ i, i < l.length ∧ l.getD i 0 = x := by
  obtain ⟨i, hi⟩ := List.getElem?_of_mem h
  exact ⟨i, lt_of_get hi, by rw [List.getD_eq_getElem?_getD, hi]; rfl⟩
theorem mk_leaf {s s' : St} {key v r : Int} (hA : AOk s.1) (hm : MkX s (hN 3 0 key v 0 []) s' r) : Gs 1 s s' ∧ (s'.2 = 0 → lfA s'.1 r ⟨key, v⟩) := by
  refine ⟨hm.gs hA (fun _ => hN_may hA (by decide) (by decide) (fun k h => by cases h)), fun h0 => ?_⟩
  obtain ⟨_, _, _, hg, _⟩ := hm.get h0
  exact ⟨_, hg⟩
theorem sum4 {A : Ar} {ks : List Int} {a b c d : Nat} (h0 : szH A (ks.getD 0 0) = a) (h1 : szH A (ks.getD 1 0) = b) (h2 : szH A (ks.getD 2 0) = c) (h3 : szH A (ks.getD 3 0) = d) (hl : a + b + c + d ≤ 1000000) : sumH A ks 4 = ((a + b + c + d : Nat) : Int) := by
  simp only [sumH, h0, h1, h2, h3]
  have e1 : IntKind.i64.wrap (0 + (a : Int)) = a := (wrap_i64 (by omega)).trans (by omega)
  rw [e1]
  have e2 : IntKind.i64.wrap ((a : Int) + b) = ((a + b : Nat) : Int) := (wrap_i64 (by omega)).trans (by omega)
  rw [e2]
  have e3 : IntKind.i64.wrap (((a + b : Nat) : Int) + c) = ((a + b + c : Nat) : Int) := (wrap_i64 (by omega)).trans (by omega)
  rw [e3]
  exact (wrap_i64 (by omega)).trans (by omega)
theorem mk_trie {s s' : St} {k : Nat} {ks : List Int} {r : Int} {L : List It} (hA : AOk s.1) (hl : ks.length = 4) (h : s.2 = 0 → ∀ i, i < 4 → IsH s.1 k (ks.getD i 0) (ofL (9 - k) i L)) (h2 : s.2 = 0 → 2 ≤ L.length) (h3 : L.length ≤ 1000000) (hm : MkX s (hN 2 0 0 0 (sumH s.1 ks ks.length) ks) s' r) : Gs 1 s s' ∧ (s'.2 = 0 → IsH s'.1 (k + 1) r L) := by
  refine ⟨hm.gs hA (fun h0 => hN_may hA (by decide) (by decide) (fun x hx => ?_)), fun h0 => ?_⟩
  · obtain ⟨i, hi, rfl⟩ := getD_of hx
    exact (h h0 i (by omega)).right
  · obtain ⟨h1, _, _, hg, he⟩ := hm.get h0
    have hk := h h1
    have hs := sum4 (hk 0 (by omega)).size (hk 1 (by omega)).size (hk 2 (by omega)).size (hk 3 (by omega)).size (by rw [part_len]; omega)
    rw [part_len] at hs
    refine (isH_trie (h2 h1)).2 ⟨genAt s.1 (lastAt s.1), ks, hl, ?_, fun i hi => (hk i hi).ext he⟩
    rw [hg, hl, hs]; rfl
theorem sum1 {A : Ar} {ks : List Int} : ∀ n : Nat, n ≤ 1000000 → (∀ i, i < n → szH A (ks.getD i 0) = 1) → sumH A ks n = n
  | 0, _, _ => rfl
  | n + 1, hn, h => by
    rw [sumH, sum1 n (by omega) (fun i hi => h i (by omega)), h n (by omega)]
    exact (wrap_i64 (by omega)).trans (by omega)
theorem mk_clash {s s' : St} {ks : List Int} {r : Int} {m L : List It} (hA : AOk s.1) (hp : m.Perm L) (hs : Srt m) (hl : ks.length = m.length) (h9 : s.2 = 0 → m.length ≤ 9) (h2 : s.2 = 0 → 2 ≤ m.length) (h : s.2 = 0 → ∀ i x, m[i]? = some x → lfA s.1 (ks.getD i 0) x) (hm : MkX s (hN 4 0 0 0 (sumH s.1 ks ks.length) ks) s' r) : Gs 1 s s' ∧ (s'.2 = 0 → IsH s'.1 0 r L) := by
  have lf : s.2 = 0 → ∀ i, i < m.length → ∃ x, m[i]? = some x ∧ lfA s.1 (ks.getD i 0) x := fun h0 i hi => by
    obtain ⟨x, hx⟩ := getSome (l := m) (i := i) hi
    exact ⟨x, hx, h h0 i x hx⟩
  refine ⟨hm.gs hA (fun h0 => hN_may hA (by decide) (by decide) (fun x hx => ?_)), fun h0 => ?_⟩
  · obtain ⟨i, hi, rfl⟩ := getD_of hx
    obtain ⟨x, _, hx⟩ := lf h0 i (by omega)
    exact hx.right
  · obtain ⟨h1, _, _, hg, he⟩ := hm.get h0
    have hsum := sum1 (A := s.1) (ks := ks) m.length (by have := h9 h1; omega) (fun i hi => by obtain ⟨x, _, hx⟩ := lf h1 i hi; exact hx.size)
    refine (isH_clash (by rw [← hp.length_eq]; exact h2 h1)).2 ⟨genAt s.1 (lastAt s.1), ks, m, hp, hs, h9 h1, hl, ?_, fun i x hx => (h h1 i x hx).ext he⟩
    rw [hg, hl, hsum]; rfl
def HoQ (n : Nat) (s s' : St) : Prop := Gs n s s' ∧ (¬ s.2 = 0 → s' = s)
theorem MkX.bad {s s' : St} {x : Node} {r : Int} (h : MkX s x s' r) (hb : ¬ s.2 = 0) : s' = s := by
  rcases h with ⟨_, h, _⟩ | ⟨h, _⟩ | ⟨h, _⟩ | ⟨h, _⟩
  · exact h
  all_goals exact absurd h hb
theorem cnt_pair0 (x y : It) : cnt 0 [x, y] = 3 := rfl
theorem of_both {lv i : Nat} {x y : It} (h1 : dig x.k lv = i) (h2 : dig y.k lv = i) : ofL lv i [x, y] = [x, y] := by simp [ofL, List.filter_cons, h1, h2]
theorem of_none {lv i : Nat} {x y : It} (h1 : ¬ dig x.k lv = i) (h2 : ¬ dig y.k lv = i) : ofL lv i [x, y] = [] := by simp [ofL, List.filter_cons, h1, h2]
theorem of_fst {lv i : Nat} {x y : It} (h1 : dig x.k lv = i) (h2 : ¬ dig y.k lv = i) : ofL lv i [x, y] = [x] := by simp [ofL, List.filter_cons, h1, h2]
theorem of_snd {lv i : Nat} {x y : It} (h1 : ¬ dig x.k lv = i) (h2 : dig y.k lv = i) : ofL lv i [x, y] = [y] := by simp [ofL, List.filter_cons, h1, h2]
theorem cnt_nil (k : Nat) : cnt k [] = 0 := cnt_few (by simp)
theorem cnt_pairE {k : Nat} {x y : It} (h : dig x.k (9 - k) = dig y.k (9 - k)) : cnt (k + 1) [x, y] = 1 + cnt k [x, y] := by
  have hd := dig_lt x.k (9 - k)
  rw [cnt_s (by simp)]
  rcases (show dig x.k (9 - k) = 0 ∨ dig x.k (9 - k) = 1 ∨ dig x.k (9 - k) = 2 ∨ dig x.k (9 - k) = 3 by omega) with q | q | q | q
  · rw [of_both q (by omega), of_none (by omega) (by omega), of_none (by omega) (by omega), of_none (by omega) (by omega), cnt_nil]; omega
  · rw [of_none (by omega) (by omega), of_both q (by omega), of_none (by omega) (by omega), of_none (by omega) (by omega), cnt_nil]; omega
  · rw [of_none (by omega) (by omega), of_none (by omega) (by omega), of_both q (by omega), of_none (by omega) (by omega), cnt_nil]; omega
  · rw [of_none (by omega) (by omega), of_none (by omega) (by omega), of_none (by omega) (by omega), of_both q (by omega), cnt_nil]; omega
theorem cnt_pairN {k : Nat} {x y : It} (h : ¬ dig x.k (9 - k) = dig y.k (9 - k)) : cnt (k + 1) [x, y] = 3 := by
  have e : ∀ i, cnt k (ofL (9 - k) i [x, y]) = (ofL (9 - k) i [x, y]).length := fun i => cnt_few (by
    by_cases h1 : dig x.k (9 - k) = i
    · rw [of_fst h1 (by omega)]; simp
    · by_cases h2 : dig y.k (9 - k) = i
      · rw [of_snd h1 h2]; simp
      · rw [of_none h1 h2]; simp)
  have hp := part_len (9 - k) [x, y]
  rw [cnt_s (by simp), e, e, e, e, hp]; rfl
theorem cnt_pair_ge {x y : It} : ∀ k, 3 ≤ cnt k [x, y]
  | 0 => by rw [cnt_pair0]; exact Nat.le_refl _
  | k + 1 => by
    have := cnt_pair_ge (x := x) (y := y) k
    by_cases h : dig x.k (9 - k) = dig y.k (9 - k)
    · rw [cnt_pairE h]; omega
    · rw [cnt_pairN h]; exact Nat.le_refl _
theorem pair_same {k i : Nat} {x y : It} {s s1 s2 : St} {r1 r : Int} (hi : i < 4) (hA : AOk s.1) (hd : s.2 = 0 → dig x.k (9 - k) = i ∧ dig y.k (9 - k) = i) (g1 : HoQ (cnt k [x, y] - 2) s s1) (h1 : s1.2 = 0 → IsH s1.1 k r1 [x, y]) {ks : List Int} (hks : ks = (List.replicate 4 0).set i r1) (hm : MkX s1 (hN 2 0 0 0 (sumH s1.1 ks ks.length) ks) s2 r) : HoQ (cnt (k + 1) [x, y] - 2) s s2 ∧ (s2.2 = 0 → IsH s2.1 (k + 1) r [x, y]) := by
  have hge := cnt_pair_ge (x := x) (y := y) k
  have hl : ks.length = 4 := by rw [hks]; simp
  have hself : ks.getD i 0 = r1 := by rw [hks, List.getD_eq_getElem?_getD, List.getElem?_set_self (by simpa using hi)]; rfl
  have hoth : ∀ j, ¬ j = i → ks.getD j 0 = 0 := fun j hj => by
    rw [hks, List.getD_eq_getElem?_getD, List.getElem?_set_ne (by omega), List.getElem?_replicate]
    split <;> rfl
  have key := mk_trie (L := [x, y]) (k := k) g1.1.ok hl (fun h0 j hj => by
    obtain ⟨d1, d2⟩ := hd (g1.1.back h0)
    by_cases e : j = i
    · rw [e, hself, of_both d1 d2]; exact h1 h0
    · rw [hoth j e, of_none (by omega) (by omega)]; exact isH_nil.2 rfl) (fun _ => by simp) (by simp) hm
  by_cases hs : s.2 = 0
  · obtain ⟨d1, d2⟩ := hd hs
    rw [cnt_pairE (by omega)]
    exact ⟨⟨(g1.1.trans key.1).mono (by omega), fun h => absurd hs h⟩, key.2⟩
  · have e1 := g1.2 hs
    have e2 := hm.bad (by rw [e1]; exact hs)
    rw [e2, e1]
    exact ⟨⟨(Gs.refl hA).mono (by omega), fun _ => rfl⟩, fun h => absurd h hs⟩
theorem pair_unlike {k i j : Nat} {x y : It} {s s2 : St} {a b r : Int} (hi : i < 4) (hj : j < 4) (hij : ¬ i = j) (hA : AOk s.1) (hd : s.2 = 0 → dig x.k (9 - k) = i ∧ dig y.k (9 - k) = j ∧ lfA s.1 a x ∧ lfA s.1 b y) {ks : List Int} (hks : ks = ((List.replicate 4 0).set i a).set j b) (hm : MkX s (hN 2 0 0 0 (sumH s.1 ks ks.length) ks) s2 r) : HoQ (cnt (k + 1) [x, y] - 2) s s2 ∧ (s2.2 = 0 → IsH s2.1 (k + 1) r [x, y]) := by
  have hl : ks.length = 4 := by rw [hks]; simp
  have hsi : ks.getD i 0 = a := by rw [hks, List.getD_eq_getElem?_getD, List.getElem?_set_ne (by omega), List.getElem?_set_self (by simpa using hi)]; rfl
  have hsj : ks.getD j 0 = b := by rw [hks, List.getD_eq_getElem?_getD, List.getElem?_set_self (by simpa using hj)]; rfl
  have hoth : ∀ q, ¬ q = i → ¬ q = j → ks.getD q 0 = 0 := fun q h1 h2 => by
    rw [hks, List.getD_eq_getElem?_getD, List.getElem?_set_ne (by omega), List.getElem?_set_ne (by omega), List.getElem?_replicate]
    split <;> rfl
  have key := mk_trie (L := [x, y]) (k := k) hA hl (fun h0 q hq => by
    obtain ⟨d1, d2, d3, d4⟩ := hd h0
    by_cases e : q = i
    · rw [e, hsi, of_fst d1 (by omega)]; exact isH_one.2 d3
    · by_cases e2 : q = j
      · rw [e2, hsj, of_snd (by omega) d2]; exact isH_one.2 d4
      · rw [hoth q e e2, of_none (by omega) (by omega)]; exact isH_nil.2 rfl) (fun _ => by simp) (by simp) hm
  by_cases hs : s.2 = 0
  · obtain ⟨d1, d2, _⟩ := hd hs
    rw [cnt_pairN (by omega)]
    exact ⟨⟨key.1, fun h => absurd hs h⟩, key.2⟩
  · have e2 := hm.bad hs
    rw [e2]
    exact ⟨⟨(Gs.refl hA).mono (by omega), fun _ => rfl⟩, fun h => absurd h hs⟩
theorem pair_last {x y : It} {s s2 : St} {r : Int} (hne : ¬ x.k = y.k) (hA : AOk s.1) {ks : List Int} (hks : s.2 = 0 → ∃ a b, lfA s.1 a x ∧ lfA s.1 b y ∧ (x.k < y.k ∧ ks = [a, b] ∨ y.k < x.k ∧ ks = [b, a])) (hl : ks.length = 2) (hm : MkX s (hN 4 0 0 0 (sumH s.1 ks ks.length) ks) s2 r) : HoQ (cnt 0 [x, y] - 2) s s2 ∧ (s2.2 = 0 → IsH s2.1 0 r [x, y]) := by
  have hm2 : ∃ m, List.Perm m [x, y] ∧ Srt m ∧ (s.2 = 0 → ∀ i z, m[i]? = some z → lfA s.1 (ks.getD i 0) z) := by
    by_cases hs : s.2 = 0
    · obtain ⟨a, b, h1, h2, h3⟩ := hks hs
      rcases h3 with ⟨h3, rfl⟩ | ⟨h3, rfl⟩
      · refine ⟨[x, y], List.Perm.refl _, ?_, fun _ i z hz => ?_⟩
        · refine List.pairwise_cons.2 ⟨fun z hz => ?_, List.pairwise_singleton _ _⟩
          rw [List.mem_singleton.1 hz]; exact h3
        · rcases i with _ | _ | i
          · cases hz; exact h1
          · cases hz; exact h2
          · cases hz
      · refine ⟨[y, x], List.Perm.swap _ _ _, ?_, fun _ i z hz => ?_⟩
        · refine List.pairwise_cons.2 ⟨fun z hz => ?_, List.pairwise_singleton _ _⟩
          rw [List.mem_singleton.1 hz]; exact h3
        · rcases i with _ | _ | i
          · cases hz; exact h2
          · cases hz; exact h1
          · cases hz
    · rcases Int.lt_or_lt_of_ne hne with h3 | h3
      · refine ⟨[x, y], List.Perm.refl _, ?_, fun h => absurd h hs⟩
        refine List.pairwise_cons.2 ⟨fun z hz => ?_, List.pairwise_singleton _ _⟩
        rw [List.mem_singleton.1 hz]; exact h3
      · refine ⟨[y, x], List.Perm.swap _ _ _, ?_, fun h => absurd h hs⟩
        refine List.pairwise_cons.2 ⟨fun z hz => ?_, List.pairwise_singleton _ _⟩
        rw [List.mem_singleton.1 hz]; exact h3
  obtain ⟨m, h1, h2, h3⟩ := hm2
  have hml := h1.length_eq
  have hml2 : m.length = 2 := hml
  have key := mk_clash hA h1 h2 (by omega) (fun _ => by omega) (fun _ => by omega) h3 hm
  exact ⟨⟨key.1, fun h => hm.bad h⟩, key.2⟩
theorem HoQ.mono {n m : Nat} {s s' : St} (h : HoQ n s s') (hn : n ≤ m) : HoQ m s s' := ⟨h.1.mono hn, h.2⟩
theorem HoQ.trans {n m : Nat} {a b c : St} (h : HoQ n a b) (k : HoQ m b c) : HoQ (n + m) a c := ⟨h.1.trans k.1, fun e => by have e1 := h.2 e; rw [k.2 (by rw [e1]; exact e), e1]⟩
theorem MkX.hq {n : Nat} {s s' : St} {x : Node} {r : Int} (hm : MkX s x s' r) (h : Gs n s s') : HoQ n s s' := ⟨h, hm.bad⟩
theorem put_leaf {k : Nat} {s s' : St} {L : List It} {key v r : Int} (hA : AOk s.1) (hL : delL L key = []) (hm : MkX s (hN 3 0 key v 0 []) s' r) : HoQ (cnt k (putM L key v)) s s' ∧ (s'.2 = 0 → IsH s'.1 k r (putM L key v)) := by
  have h := mk_leaf hA hm
  have e : putM L key v = [⟨key, v⟩] := by unfold putM; rw [hL]
  rw [e, cnt_few (by simp)]
  exact ⟨hm.hq h.1, fun h0 => isH_one.2 (h.2 h0)⟩
theorem put_pair {k : Nat} {s s1 s2 : St} {x : It} {key v r r1 : Int} (hne : ¬ x.k = key) (hA : AOk s.1) (hm : MkX s (hN 3 0 key v 0 []) s1 r1) (h : HoQ (cnt k [x, ⟨key, v⟩] - 2) s1 s2) (h2 : s2.2 = 0 → IsH s2.1 k r [x, ⟨key, v⟩]) : HoQ (cnt k (putM [x] key v)) s s2 ∧ (s2.2 = 0 → IsH s2.1 k r (putM [x] key v)) := by
  have e : putM [x] key v = [⟨key, v⟩, x] := by unfold putM; rw [delL_none (fun y hy => by rw [List.mem_singleton.1 hy]; exact hne)]
  have p : List.Perm [x, ⟨key, v⟩] [(⟨key, v⟩ : It), x] := List.Perm.swap _ _ _
  have hg := mk_leaf hA hm
  have h3 := cnt_pair_ge (x := x) (y := ⟨key, v⟩) k
  rw [e, ← cnt_perm p]
  exact ⟨((hm.hq hg.1).trans h).mono (by omega), fun h0 => (h2 h0).perm p⟩
theorem put_trie {k i : Nat} {A0 : Ar} {s s1 s2 : St} {L : List It} {key v r r1 : Int} {ks0 ks : List Int} (hap : Ap L) (hl2 : 2 ≤ L.length) (hl3 : L.length ≤ 1000) (hi : dig key (9 - k) = i) (hl0 : ks0.length = 4) (hk : ∀ j, j < 4 → IsH A0 k (ks0.getD j 0) (ofL (9 - k) j L)) (hE : Ext A0 s.1) (g1 : HoQ (cnt k (putM (ofL (9 - k) i L) key v)) s s1) (h1 : s1.2 = 0 → IsH s1.1 k r1 (putM (ofL (9 - k) i L) key v)) (hks : ks = ks0.set i r1) (hm : MkX s1 (hN 2 0 0 0 (sumH s1.1 ks ks.length) ks) s2 r) : HoQ (cnt (k + 1) (putM L key v)) s s2 ∧ (s2.2 = 0 → IsH s2.1 (k + 1) r (putM L key v)) := by
  have hi4 : i < 4 := hi ▸ dig_lt _ _
  have hlen := putM_len (key := key) (v := v) hap
  have hp2 : 2 ≤ (putM L key v).length := by split at hlen <;> omega
  have hp3 : (putM L key v).length ≤ 1000000 := by omega
  have key1 := mk_trie (L := putM L key v) (k := k) g1.1.ok (by rw [hks, List.length_set]; exact hl0) (fun h0 j hj => by
    by_cases e : j = i
    · rw [e, hks, List.getD_eq_getElem?_getD, List.getElem?_set_self (by omega), ofL_put hi]; exact h1 h0
    · rw [hks, List.getD_eq_getElem?_getD, List.getElem?_set_ne (by omega), ← List.getD_eq_getElem?_getD, ofL_put_ne (by omega)]
      exact (hk j hj).ext (hE.trans g1.1.ext)) (fun _ => hp2) hp3 hm
  have hc := cnt_of (k := k) hp2 hi4
  rw [ofL_put hi] at hc
  exact ⟨(g1.trans (hm.hq key1.1)).mono (by omega), key1.2⟩
def Room (key : Int) (L : List It) : Prop := hasK L key = false → (L.filter fun x => decide (hashOf x.k = hashOf key)).length ≤ 8
theorem Room.of {key : Int} {L : List It} {lv : Nat} (h : Room key L) : Room key (ofL lv (dig key lv) L) := by
  intro hn
  have h0 : hasK L key = false := hasK_no fun x hx e => by rw [hasK_iff.2 ⟨x, ofL_mem.2 ⟨hx, by rw [e]⟩, e⟩] at hn; cases hn
  refine Nat.le_trans (List.Sublist.length_le ?_) (h h0)
  exact (List.filter_sublist).filter _
theorem srt_place {m : List It} (hs : Srt m) (key : Int) {n : Nat} (hn : n ≤ m.length) (h1 : ∀ j x, j < n → m[j]? = some x → x.k < key) (h2 : ∀ j x, n ≤ j → m[j]? = some x → ¬ x.k < key) : ltL key m = m.take n ∧ (∀ x, m[n]? = some x → x.k = key → gtL key m = m.drop (n + 1)) ∧ ((∀ x, m[n]? = some x → ¬ x.k = key) → gtL key m = m.drop n ∧ hasK m key = false) := by
  have ht : ∀ y ∈ m.take n, y.k < key := fun y hy => by
    obtain ⟨j, hj⟩ := List.getElem?_of_mem hy
    have := lt_of_get hj
    rw [List.length_take] at this
    rw [List.getElem?_take_of_lt (by omega)] at hj
    exact h1 j y (by omega) hj
  have hd : ∀ y ∈ m.drop n, ¬ y.k < key := fun y hy => by
    obtain ⟨j, hj⟩ := List.getElem?_of_mem hy
    rw [List.getElem?_drop] at hj
    exact h2 _ y (by omega) hj
  have e := List.take_append_drop n m
  have a1 : ltL key (m.take n) = m.take n := filter_all fun y hy => by simpa using ht y hy
  have a2 : ltL key (m.drop n) = [] := filter_none fun y hy => by simpa using hd y hy
  have a3 : gtL key (m.take n) = [] := filter_none fun y hy => by have := ht y hy; simp; omega
  have l1 : ltL key m = ltL key (m.take n) ++ ltL key (m.drop n) := by
    conv => lhs; rw [← e]
    exact List.filter_append _ _
  have l2 : gtL key m = gtL key (m.take n) ++ gtL key (m.drop n) := by
    conv => lhs; rw [← e]
    exact List.filter_append _ _
  refine ⟨by rw [l1, a1, a2, List.append_nil], fun x hx hk => ?_, fun hno => ?_⟩
  · have hlt := lt_of_get hx
    have e3 : m.drop n = x :: m.drop (n + 1) := by rw [List.drop_eq_getElem_cons hlt, getElem_of hx]
    rw [l2, a3, List.nil_append, e3]
    unfold gtL
    rw [List.filter_cons, if_neg (by simp; omega)]
    refine filter_all fun y hy => ?_
    have hs2 : Srt (m.drop n) := List.Pairwise.sublist (List.drop_sublist _ _) hs
    rw [e3] at hs2
    have := (List.pairwise_cons.1 hs2).1 y hy
    simp; omega
  · have hall : ∀ y ∈ m.drop n, key < y.k := fun y hy => by
      obtain ⟨j, hj⟩ := List.getElem?_of_mem hy
      rw [List.getElem?_drop] at hj
      have h3 := h2 _ y (by omega) hj
      by_cases q : j = 0
      · subst q
        have := hno y hj
        omega
      · obtain ⟨z, hz⟩ := getSome (l := m) (i := n) (by have := lt_of_get hj; omega)
        have h4 := h2 n z (Nat.le_refl _) hz
        have := List.pairwise_iff_getElem.1 hs n (n + j) (lt_of_get hz) (lt_of_get hj) (by omega)
        rw [getElem_of hz, getElem_of hj] at this
        omega
    refine ⟨by rw [l2, a3, List.nil_append]; exact filter_all fun y hy => by simpa using hall y hy, hasK_no fun y hy e2 => ?_⟩
    rw [← e] at hy
    rcases List.mem_append.1 hy with hy | hy
    · have := ht y hy; omega
    · have := hall y hy; omega
def cmpH (a b : Int) : Int := if a < b then -1 else if b < a then 1 else 0
theorem cmpH_lt {a b : Int} : cmpH a b < 0 ↔ a < b := by unfold cmpH; split <;> (try split) <;> omega
theorem cmpH_eq {a b : Int} : cmpH a b = 0 ↔ a = b := by unfold cmpH; split <;> (try split) <;> omega
def kidsL (y : Node) : List Int := y.kids.filter fun r => !decide (r = 0)
theorem kidsL_take {y : Node} {n : Nat} (hn : n ≤ 9) (h1 : ∀ i, i < n → ¬ y.kids.getD i 0 = 0) (h2 : ∀ i, n ≤ i → i < 9 → y.kids.getD i 0 = 0) : kidsL y = y.kids.take n := by
  have hl : y.kids.length = 9 := rfl
  unfold kidsL
  conv => lhs; rw [← List.take_append_drop n y.kids]
  rw [List.filter_append, List.filter_eq_self.2 ?_, List.filter_eq_nil_iff.2 ?_, List.append_nil]
  · intro z hz
    obtain ⟨j, hj⟩ := List.getElem?_of_mem hz
    rw [List.getElem?_drop] at hj
    have := lt_of_get hj
    have h3 := h2 (n + j) (by omega) (by omega)
    rw [List.getD_eq_getElem?_getD, hj] at h3
    simpa using h3
  · intro z hz
    obtain ⟨j, hj⟩ := List.getElem?_of_mem hz
    have h5 := lt_of_get hj
    rw [List.length_take] at h5
    rw [List.getElem?_take_of_lt (by omega)] at hj
    have h3 := h1 j (by omega)
    rw [List.getD_eq_getElem?_getD, hj] at h3
    simpa using h3
theorem Room.last {key : Int} {L : List It} (h : Room key L) (hf : Fam 10 (hashOf key % 4 ^ 10) L) (hn : hasK L key = false) : L.length ≤ 8 := by
  have h1 := h hn
  rw [filter_all fun y hy => ?_] at h1
  · exact h1
  · have h2 := hf y hy
    have h3 := hashOf_lt y.k
    have h4 := hashOf_lt key
    have h5 : (4 : Nat) ^ 10 = 1048576 := rfl
    rw [h5, Nat.mod_eq_of_lt h3, Nat.mod_eq_of_lt h4] at h2
    simpa using h2
theorem hasK_perm {key : Int} {L M : List It} (p : L.Perm M) : hasK L key = hasK M key := by
  rw [Bool.eq_iff_iff, hasK_iff, hasK_iff]
  exact ⟨fun ⟨y, hy, e⟩ => ⟨y, p.mem_iff.1 hy, e⟩, fun ⟨y, hy, e⟩ => ⟨y, p.mem_iff.2 hy, e⟩⟩
theorem put_clash {A0 : Ar} {s s1 s2 : St} {m L : List It} {key v r r1 : Int} {ks0 ks : List Int} {n : Nat} (hp : m.Perm L) (hs : Srt m) (hl : ks0.length = m.length) (hl2 : 2 ≤ m.length) (h9 : m.length ≤ 9) (hA : AOk s.1) (hE : Ext A0 s.1) (hk : ∀ i x, m[i]? = some x → lfA A0 (ks0.getD i 0) x) (hm1 : MkX s (hN 3 0 key v 0 []) s1 r1) (hn : n ≤ m.length) (h1 : ∀ j x, j < n → m[j]? = some x → x.k < key) (h2 : ∀ j x, n ≤ j → m[j]? = some x → ¬ x.k < key)
    (hks : (∃ x, m[n]? = some x ∧ x.k = key) ∧ ks = ks0.set n r1 ∨ (∀ x, m[n]? = some x → ¬ x.k = key) ∧ m.length ≤ 8 ∧ ks = ks0.take n ++ r1 :: ks0.drop n) (hm : MkX s1 (hN 4 0 0 0 (sumH s1.1 ks ks.length) ks) s2 r) : HoQ (cnt 0 (putM L key v)) s s2 ∧ (s2.2 = 0 → IsH s2.1 0 r (putM L key v)) := by
  have hg1 := mk_leaf hA hm1
  obtain ⟨q1, q2, q3⟩ := srt_place hs key hn h1 h2
  have hsp : Srt (putL m key v) := hs.put
  have hpp : (putL m key v).Perm (putM L key v) := putL_putM.trans (putM_perm hp)
  have hx1 := hg1.1.ext
  have main : ks.length = (putL m key v).length ∧ (putL m key v).length ≤ 9 ∧ 2 ≤ (putL m key v).length ∧ (s1.2 = 0 → ∀ i x, (putL m key v)[i]? = some x → lfA s1.1 (ks.getD i 0) x) := by
    rcases hks with ⟨⟨x, hx, hxk⟩, rfl⟩ | ⟨hno, h8, rfl⟩
    · have hlt := lt_of_get hx
      have e : putL m key v = m.set n ⟨key, v⟩ := by
        unfold putL
        rw [q1, q2 x hx hxk, List.set_eq_take_append_cons_drop, if_pos hlt]
      rw [e, List.length_set, List.length_set]
      refine ⟨hl, h9, hl2, fun h0 i z hz => ?_⟩
      by_cases ei : i = n
      · subst ei
        rw [List.getElem?_set_self hlt] at hz
        cases hz
        rw [List.getD_eq_getElem?_getD, List.getElem?_set_self (by omega)]
        exact hg1.2 h0
      · rw [List.getElem?_set_ne (by omega)] at hz
        rw [List.getD_eq_getElem?_getD, List.getElem?_set_ne (by omega), ← List.getD_eq_getElem?_getD]
        exact ((hk i z hz).ext hE).ext hx1
    · have e : putL m key v = m.take n ++ ⟨key, v⟩ :: m.drop n := by
        unfold putL
        rw [q1, (q3 hno).1]
      have len : ∀ {α : Type} (l : List α) (x : α), n ≤ l.length → (l.take n ++ x :: l.drop n).length = l.length + 1 := fun l x h => by
        rw [List.length_append, List.length_cons, List.length_take, List.length_drop]; omega
      rw [e, len _ _ (by omega), len _ _ hn]
      refine ⟨by omega, by omega, by omega, fun h0 i z hz => ?_⟩
      have l1 : (m.take n).length = n := by rw [List.length_take]; omega
      have l2 : (ks0.take n).length = n := by rw [List.length_take]; omega
      rcases Nat.lt_trichotomy i n with c | c | c
      · rw [List.getElem?_append_left (by omega), List.getElem?_take_of_lt c] at hz
        rw [List.getD_eq_getElem?_getD, List.getElem?_append_left (by omega), List.getElem?_take_of_lt c, ← List.getD_eq_getElem?_getD]
        exact ((hk i z hz).ext hE).ext hx1
      · subst c
        rw [List.getElem?_append_right (by omega), l1, Nat.sub_self] at hz
        cases hz
        rw [List.getD_eq_getElem?_getD, List.getElem?_append_right (by omega), l2, Nat.sub_self]
        exact hg1.2 h0
      · obtain ⟨j, rfl⟩ : ∃ j, i = n + (j + 1) := ⟨i - n - 1, by omega⟩
        rw [List.getElem?_append_right (by omega), l1, show n + (j + 1) - n = j + 1 by omega, List.getElem?_cons_succ, List.getElem?_drop] at hz
        rw [List.getD_eq_getElem?_getD, List.getElem?_append_right (by omega), l2, show n + (j + 1) - n = j + 1 by omega, List.getElem?_cons_succ, List.getElem?_drop, ← List.getD_eq_getElem?_getD]
        exact ((hk _ z hz).ext hE).ext hx1
  obtain ⟨m1, m2, m3, m4⟩ := main
  have key2 := mk_clash hg1.1.ok hpp hsp m1 (fun _ => m2) (fun _ => m3) m4 hm
  have hpl := hpp.length_eq
  rw [cnt_0 (by omega)]
  exact ⟨((hm1.hq hg1.1).trans (hm.hq key2.1)).mono (by omega), key2.2⟩
end Go.Proofs.YtbjmllnddanniaaGreat
