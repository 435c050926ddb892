/-
  A map built of a row, walked.
-/
import Derived.Test.YtdmaogopibljoaaTreapBuildP
set_option linter.unusedVariables false
set_option linter.unusedSimpArgs false
namespace Go.Proofs.Ytdmaogopibljoaa
open Go Go.XL

theorem agLe {N : Nat → Prop} {w0 w : World} {b : Nat} (h : Agr N w0 w) (e : b = w.heap.size) : w0.heap.size ≤ b := by rw [e]; exact h.size
theorem agNew {N : Nat → Prop} {w0 w w' : World} {b : Nat} (h : Agr N w0 w) (a : Agr (· = b) w w') (g : w0.heap.size ≤ b) : Agr N w0 w' :=
  ⟨a.os.trans h.os, a.tape.trans h.tape, a.output.trans h.output, Nat.le_trans h.size a.size, fun k hk hn => (a.block k (Nat.lt_of_lt_of_le hk h.size) (fun (e : k = b) => absurd hk (by omega))).trans (h.block k hk hn)⟩
theorem row_set0 {w : World} {b : Nat} {e : TypeId} {sz : Nat} {rows : List (List Value)} {r : List Value} {i : Nat} (h : Has w b (splice rows.flatten (i * sz) r) e) (hl : ∀ r ∈ rows, r.length = sz) (hi : i < rows.length) (hr : r.length = sz) : Has w b (rows.set i r).flatten e := by
  have := Has.row_set (extra := []) (rows := rows) (i := i) (sz := sz) (r := r) (by rw [List.append_nil]; exact h) hl hi hr
  rw [List.append_nil] at this
  exact this
set_option maxHeartbeats 2000000 in
theorem c_lay (bN cN nn : Nat) : ∀ (k : Nat) (ns : List Node) (at_ : Nat) (l : List It) (M : Nat → Prop) (a : Option Addr) (c m : Nat) (w : World), m = l.length → l.length ≤ c → l.length < k → at_ + l.length ≤ ns.length → ns.length = nn → nn ≤ 512 → Ft M (fun u => Sl u a 2 (l.map It.cells)) w → (∀ k, M k → k ≠ bN) → Has w bN (ns.map Node.cells).flatten 69 →
    FC Try.prog 18 [.agg #[.slice (some ⟨bN, 0, none⟩) nn cN, .slice none 0 0], .int .i64 (at_ : Int), .slice a m c] w (fun v w' => v = .int .u64 (layF k ns at_ l).2 ∧ Agr (· = bN) w w' ∧ Has w' bN ((layF k ns at_ l).1.map Node.cells).flatten 69) := by
  intro k
  induction k with
  | zero => intro ns at_ l M a c m w _ _ h; omega
  | succ k ih =>
  intro ns at_ l M a c m w hm hc hk hat hnn h512 hI dN hbN
  subst hm
  refine FC.intro Try.func18 rfl Try.ntmps18 rfl ?_
  have G : Agr (· = bN) w w := Agr.refl _ _
  refine RC.seq ?_
  refine RC.region rfl ?_
  refine RL.box rfl rfl rfl (fun b_3 w_3 e_3 z_3 hb_3 s_3 => ?_)
  have nN__3 := hbN.ne e_3
  have d_hI_b_3 := hI.neNew e_3
  have geG_3 := agLe G e_3
  have G := G.trans s_3.agr
  have hbN := hbN.sub s_3
  have hI := hI.sub s_3
  have hb_3 : Has w_3 b_3 ([.slice (some ⟨bN, 0, none⟩) nn cN, .slice none 0 0]) _ := hb_3
  refine RL.ev (.assign rfl) rfl rfl ?_
  refine RL.nil (RC.back ?_)
  refine RC.seq ?_
  refine RC.region rfl ?_
  refine RL.ev (.move rfl) rfl rfl ?_
  refine RL.call rfl ok27 (c_top l a c l.length rfl w_3 hI.now (by omega)) rfl rfl ?_
  rintro _ w1 ⟨rfl, s2⟩
  have G := G.trans s2.agr
  have hbN := hbN.sub s2
  have hI := hI.sub s2
  have hb_3 := hb_3.sub s2
  refine RL.ev (.assign rfl) rfl rfl ?_
  refine RL.nil (RC.back ?_)
  refine RC.seq ?_
  refine RC.seq ?_
  refine RC.region rfl ?_
  refine RL.ev (.move rfl) rfl rfl ?_
  refine RL.ev (.bin rfl rfl rfl) rfl rfl ?_
  refine RL.nil (RC.back ?_)
  refine RC.cond_dec rfl (fun h3 => ?_) (fun h3 => ?_)
  ·
    obtain rfl := topL_neg h3
    refine RC.seq ?_
    refine RC.region rfl ?_
    refine RL.ev (.assign rfl) rfl rfl ?_
    refine RL.nil (RC.back ?_)
    refine RC.done (rs := [.tmp 6]) (vs := [_]) rfl rfl ⟨rfl, trivial⟩ ?_
    -- end 1
    exact ⟨rfl, G, hbN⟩
  ·
    have ht := h3
    have hlp : 0 < l.length := (by rcases Nat.eq_zero_or_pos l.length with e | e; (rw [List.eq_nil_of_length_eq_zero e] at ht; exact absurd (show topL [] < 0 by decide) ht); exact e)
    have htr := topL_rng hlp
    obtain ⟨it, hit⟩ := getSome (l := l) (i := (topL l).toNat) (by omega)
    have hgd : l.getD (topL l).toNat it0 = it := (by rw [List.getD_eq_getElem?_getD, hit]; rfl)
    obtain ⟨t, ht2⟩ : ∃ t : Nat, topL l = t := ⟨(topL l).toNat, by omega⟩
    have ht3 : (topL l).toNat = t := (by rw [ht2]; rfl)
    rw [ht3] at hit hgd
    rw [ht2] at htr
    have hL : (l.take t).length = t := (by rw [List.length_take]; omega)
    have hR : (l.drop (t + 1)).length = l.length - (t + 1) := List.length_drop
    refine RC.skip (RC.back ?_)
    refine RC.seq ?_
    refine RC.drawD (fun k => False) [14] w1.heap.size 15 rfl rfl mxo (fun w4 s5 => ?_)
    have ltD_bN := hbN.lt
    have ltD_hI := fun k hk => (hI.ge k hk).2
    have ltD_b_3 := hb_3.lt
    have szD := Nat.le_refl w1.heap.size
    have G := G.trans s5.agr
    have hbN := hbN.sub s5
    have hI := hI.sub s5
    have hb_3 := hb_3.sub s5
    have szD := Nat.le_trans szD s5.size
    refine RD.take 0 rfl (by kernel_rfl) (by kernel_rfl) (by kernel_rfl) (fun w' s' => .move rfl) rfl rfl ?_
    refine RD.take 1 rfl (by kernel_rfl) (by kernel_rfl) (by kernel_rfl) (fun w' s' => .as (v' := .int .i64 (t : Int)) (.move rfl) (by rw [ht2])) rfl rfl ?_
    refine RD.take 2 rfl (by kernel_rfl) (by kernel_rfl) (by kernel_rfl) (fun w' s' => .indexS sl23 rfl rfl (by omega) (hI.now.is (i := 0) (by simp only [List.length_map]; omega))) rfl rfl ?_
    refine RD.take 3 rfl (by kernel_rfl) (by kernel_rfl) (by kernel_rfl) (fun w' s' => .fieldA fo42_0 rfl) rfl rfl ?_
    refine RD.take 4 rfl (by kernel_rfl) (by kernel_rfl) (by kernel_rfl) (fun w' s' => .load1 sh2 rfl ((hI.step s' (fun k hk e => e.elim (fun e => e.elim) (Nat.not_le.2 (ltD_hI k hk)))).now.cell (enc := It.cells) (j := 0) hit rfl)) rfl rfl ?_
    refine RD.take 5 rfl (by kernel_rfl) (by kernel_rfl) (by kernel_rfl) (fun w' s' => .move rfl) rfl rfl ?_
    refine RD.take 6 rfl (by kernel_rfl) (by kernel_rfl) (by kernel_rfl) (fun w' s' => .as (v' := .int .i64 (t : Int)) (.move rfl) (by rw [ht2])) rfl rfl ?_
    refine RD.take 7 rfl (by kernel_rfl) (by kernel_rfl) (by kernel_rfl) (fun w' s' => .indexS sl23 rfl rfl (by omega) (hI.now.is (i := 0) (by simp only [List.length_map]; omega))) rfl rfl ?_
    refine RD.take 8 rfl (by kernel_rfl) (by kernel_rfl) (by kernel_rfl) (fun w' s' => .fieldA fo42_1 rfl) rfl rfl ?_
    refine RD.take 9 rfl (by kernel_rfl) (by kernel_rfl) (by kernel_rfl) (fun w' s' => .load1 sh2 rfl ((hI.step s' (fun k hk e => e.elim (fun e => e.elim) (Nat.not_le.2 (ltD_hI k hk)))).now.cell (enc := It.cells) (j := 1) hit rfl)) rfl rfl ?_
    refine RD.take 10 rfl (by kernel_rfl) (by kernel_rfl) (by kernel_rfl) (fun w' s' => .move rfl) rfl rfl ?_
    refine RD.take 11 rfl (by kernel_rfl) (by kernel_rfl) (by kernel_rfl) (fun w' s' => .len sl23 rfl) rfl rfl ?_
    refine RD.take 12 rfl (by kernel_rfl) (by kernel_rfl) (by kernel_rfl) (fun w' s' => .buildS ze69 pl69 rfl rfl) rfl rfl ?_
    refine RD.all [13] (by kernel_rfl) rfl (RDs.cons rfl ?_ (RDs.nil))
    refine RL.alloc ze69 rfl rfl (fun b_8 w_8 e_8 z_8 hb_8 s_8 => ?_)
    have fr_b_8 : w1.heap.size ≤ b_8 := by rw [e_8]; exact szD
    have nN__8 := hbN.ne e_8
    have n_3__8 := hb_3.ne e_8
    have d_hI_b_8 := hI.neNew e_8
    have geG_8 := agLe G e_8
    have G := G.trans s_8.agr
    have hbN := hbN.sub s_8
    have hI := hI.sub s_8
    have hb_3 := hb_3.sub s_8
    have szD := Nat.le_trans szD s_8.size
    refine RD.back s_8.agr ?_
    refine RD.all [14] (by kernel_rfl) rfl (RDs.cons rfl ?_ (RDs.nil))
    refine RL.store sh69 rfl rfl rfl hb_8 (by exact Nat.le_of_ble_eq_true rfl) (by rfl) rfl (fun w6 z6 hb_8 a6 => ?_)
    have G := agNew G a6 geG_8
    have hbN := hbN.upd a6 nN__8
    have hI := hI.updD a6 d_hI_b_8
    have hb_3 := hb_3.upd a6 n_3__8
    have szD := Nat.le_trans szD a6.size
    have hb_8 : Has w6 b_8 ((tNode 0 it.k it.v l.length 0 0).cells) _ := hb_8.now (by kernel_rfl)
    refine RD.backW rfl (a6.mono fun k _ e => e ▸ (.inr fr_b_8)) ?_
    refine RD.done (by kernel_rfl) (RC.back ?_)
    refine RC.seq ?_
    refine RC.drawD (fun k => k = b_8 ∨ k = bN) [6, 9] w6.heap.size 10 rfl rfl mxo (fun w7 s8 => ?_)
    have ltD_bN := hbN.lt
    have ltD_hI := fun k hk => (hI.ge k hk).2
    have ltD_b_3 := hb_3.lt
    have ltD_b_8 := hb_8.lt
    have szD := Nat.le_refl w6.heap.size
    have G := G.trans s8.agr
    have hbN := hbN.sub s8
    have hI := hI.sub s8
    have hb_3 := hb_3.sub s8
    have hb_8 := hb_8.sub s8
    have szD := Nat.le_trans szD s8.size
    refine RD.take 0 rfl (by kernel_rfl) (by kernel_rfl) (by kernel_rfl) (fun w' s' => .loadR ([.slice (some ⟨bN, 0, none⟩) nn cN, .slice none 0 0]) sh28 rfl (hb_3.step s' (fun e => e.elim (fun e => e.elim (fun e => n_3__8 e) (fun e => nN__3.symm e)) (fun e => Nat.not_le.2 ltD_b_3 e))).row rfl) rfl rfl ?_
    refine RD.take 1 rfl (by kernel_rfl) (by kernel_rfl) (by kernel_rfl) (fun w' s' => .move rfl) rfl rfl ?_
    refine RD.take 2 rfl (by kernel_rfl) (by kernel_rfl) (by kernel_rfl) (fun w' s' => .as (.bin rfl rfl rfl) (wi64 (y := ((at_ + 1 : Nat) : Int)) (by omega) (by omega))) rfl rfl ?_
    refine RD.take 3 rfl (by kernel_rfl) (by kernel_rfl) (by kernel_rfl) (fun w' s' => .move rfl) rfl rfl ?_
    refine RD.take 4 rfl (by kernel_rfl) (by kernel_rfl) (by kernel_rfl) (fun w' s' => .as (v' := .int .i64 (t : Int)) (.move rfl) (by rw [ht2])) rfl rfl ?_
    refine RD.take 5 rfl (by kernel_rfl) (by kernel_rfl) (by kernel_rfl) (fun w' s' => .sliceHi sl23 rfl rfl (by omega)) rfl rfl ?_
    refine RD.take 7 rfl (by kernel_rfl) (by kernel_rfl) (by kernel_rfl) (fun w' s' => .field0 fo69_5 rfl) rfl rfl ?_
    refine RD.all [6] (by kernel_rfl) rfl (RDs.cons rfl ?_ (RDs.nil))
    refine RL.call rfl ok18 (ih ns (at_ + 1) (l.take t) M a c t w7 hL.symm (by omega) (by omega) (by omega) hnn h512 (hI.imp fun u h => slTakeM h _) dN hbN) rfl rfl ?_
    rintro v1 w9 ⟨hv1, ag1, hN1⟩
    have G := G.trans ag1
    have hI := hI.updD ag1 dN
    have hb_3 := hb_3.upd ag1 nN__3.symm
    have hb_8 := hb_8.upd ag1 nN__8.symm
    have szD := Nat.le_trans szD ag1.size
    obtain ⟨⟨n1, a1⟩, h1⟩ : ∃ p, layF k ns (at_ + 1) (l.take t) = p := ⟨_, rfl⟩
    have e1 := layF_len k ns (at_ + 1) (l.take t)
    rw [h1] at hv1 hN1 e1
    simp only [] at hv1 hN1 e1
    subst hv1
    have hbN := hN1
    refine RD.backW rfl (ag1.mono fun k _ e => .inl (.inr e)) ?_
    refine RD.take 8 rfl (by kernel_rfl) (by kernel_rfl) (by kernel_rfl) (fun w' s' => .indexArr ar67 rfl rfl (by omega)) rfl rfl ?_
    refine RD.all [9] (by kernel_rfl) rfl (RDs.cons rfl ?_ (RDs.nil))
    refine RL.store sh30 rfl rfl rfl hb_8 (by exact Nat.le_of_ble_eq_true rfl) (by rfl) rfl (fun w11 z11 hb_8 a11 => ?_)
    have G := agNew G a11 geG_8
    have hbN := hbN.upd a11 nN__8
    have hI := hI.updD a11 d_hI_b_8
    have hb_3 := hb_3.upd a11 n_3__8
    have szD := Nat.le_trans szD a11.size
    have hb_8 : Has w11 b_8 (tNode 0 it.k it.v l.length a1 0).cells 69 := hb_8
    refine RD.backW rfl (a11.mono fun k _ e => e ▸ (.inl (.inl rfl))) ?_
    refine RD.done (by kernel_rfl) (RC.back ?_)
    refine RC.seq ?_
    refine RC.drawD (fun k => k = b_8 ∨ k = bN) [9, 12] w11.heap.size 13 rfl rfl mxo (fun w12 s13 => ?_)
    have ltD_bN := hbN.lt
    have ltD_hI := fun k hk => (hI.ge k hk).2
    have ltD_b_3 := hb_3.lt
    have ltD_b_8 := hb_8.lt
    have szD := Nat.le_refl w11.heap.size
    have G := G.trans s13.agr
    have hbN := hbN.sub s13
    have hI := hI.sub s13
    have hb_3 := hb_3.sub s13
    have hb_8 := hb_8.sub s13
    have szD := Nat.le_trans szD s13.size
    refine RD.take 0 rfl (by kernel_rfl) (by kernel_rfl) (by kernel_rfl) (fun w' s' => .loadR ([.slice (some ⟨bN, 0, none⟩) nn cN, .slice none 0 0]) sh28 rfl (hb_3.step s' (fun e => e.elim (fun e => e.elim (fun e => n_3__8 e) (fun e => nN__3.symm e)) (fun e => Nat.not_le.2 ltD_b_3 e))).row rfl) rfl rfl ?_
    refine RD.take 1 rfl (by kernel_rfl) (by kernel_rfl) (by kernel_rfl) (fun w' s' => .move rfl) rfl rfl ?_
    refine RD.take 2 rfl (by kernel_rfl) (by kernel_rfl) (by kernel_rfl) (fun w' s' => .as (.bin rfl rfl rfl) (wi64 (y := ((at_ + 1 : Nat) : Int)) (by omega) (by omega))) rfl rfl ?_
    refine RD.take 3 rfl (by kernel_rfl) (by kernel_rfl) (by kernel_rfl) (fun w' s' => .as (v' := .int .i64 (t : Int)) (.move rfl) (by rw [ht2])) rfl rfl ?_
    refine RD.take 4 rfl (by kernel_rfl) (by kernel_rfl) (by kernel_rfl) (fun w' s' => .as (.bin rfl rfl rfl) (wi64 (y := ((at_ + 1 + t : Nat) : Int)) (by omega) (by omega))) rfl rfl ?_
    refine RD.take 5 rfl (by kernel_rfl) (by kernel_rfl) (by kernel_rfl) (fun w' s' => .move rfl) rfl rfl ?_
    refine RD.take 6 rfl (by kernel_rfl) (by kernel_rfl) (by kernel_rfl) (fun w' s' => .as (v' := .int .i64 (t : Int)) (.move rfl) (by rw [ht2])) rfl rfl ?_
    refine RD.take 7 rfl (by kernel_rfl) (by kernel_rfl) (by kernel_rfl) (fun w' s' => .as (.bin rfl rfl rfl) (wi64 (y := ((t + 1 : Nat) : Int)) (by omega) (by omega))) rfl rfl ?_
    refine RD.take 8 rfl (by kernel_rfl) (by kernel_rfl) (by kernel_rfl) (fun w' s' => .sliceLo sl23 rfl rfl (by omega)) rfl rfl ?_
    refine RD.take 10 rfl (by kernel_rfl) (by kernel_rfl) (by kernel_rfl) (fun w' s' => .field0 fo69_5 rfl) rfl rfl ?_
    refine RD.all [9] (by kernel_rfl) rfl (RDs.cons rfl ?_ (RDs.nil))
    refine RL.call rfl ok18 (ih n1 (at_ + 1 + t) (l.drop (t + 1)) M _ _ (l.length - (t + 1)) w12 hR.symm (by rw [hR]; show _ ≤ c - (t + 1); omega) (by omega) (by omega) (by omega) h512 (hI.imp fun u h => slDropM h (t + 1) hc) dN hbN) rfl rfl ?_
    rintro v2 w14 ⟨hv2, ag2, hN2⟩
    have G := G.trans ag2
    have hI := hI.updD ag2 dN
    have hb_3 := hb_3.upd ag2 nN__3.symm
    have hb_8 := hb_8.upd ag2 nN__8.symm
    have szD := Nat.le_trans szD ag2.size
    obtain ⟨⟨n2, a2⟩, h2⟩ : ∃ p, layF k n1 (at_ + 1 + t) (l.drop (t + 1)) = p := ⟨_, rfl⟩
    have e2 := layF_len k n1 (at_ + 1 + t) (l.drop (t + 1))
    rw [h2] at hv2 hN2 e2
    simp only [] at hv2 hN2 e2
    subst hv2
    have hbN := hN2
    refine RD.backW rfl (ag2.mono fun k _ e => .inl (.inr e)) ?_
    refine RD.take 11 rfl (by kernel_rfl) (by kernel_rfl) (by kernel_rfl) (fun w' s' => .indexArr ar67 rfl rfl (by omega)) rfl rfl ?_
    refine RD.all [12] (by kernel_rfl) rfl (RDs.cons rfl ?_ (RDs.nil))
    refine RL.store sh30 rfl rfl rfl hb_8 (by exact Nat.le_of_ble_eq_true rfl) (by rfl) rfl (fun w16 z16 hb_8 a16 => ?_)
    have G := agNew G a16 geG_8
    have hbN := hbN.upd a16 nN__8
    have hI := hI.updD a16 d_hI_b_8
    have hb_3 := hb_3.upd a16 n_3__8
    have szD := Nat.le_trans szD a16.size
    have hb_8 : Has w16 b_8 (tNode 0 it.k it.v l.length a1 a2).cells 69 := hb_8
    have hres : layF (k + 1) ns at_ l = (n2.set at_ (tNode 0 it.k it.v l.length a1 a2), (at_ : Int) + 1) := (by rw [layF, if_neg ht, ht3, hgd, h1]; simp only []; rw [h2])
    refine RD.backW rfl (a16.mono fun k _ e => e ▸ (.inl (.inl rfl))) ?_
    refine RD.done (by kernel_rfl) (RC.back ?_)
    refine RC.seq ?_
    refine RC.region rfl ?_
    refine RL.ev (.field0 fo28_0 rfl) rfl rfl ?_
    refine RL.ev (.load1 sh25 rfl (hb_3.cell rfl)) rfl rfl ?_
    refine RL.ev (.move rfl) rfl rfl ?_
    refine RL.ev (.loadR ((tNode 0 it.k it.v l.length a1 a2).cells) sh69 rfl hb_8.row rfl) rfl rfl ?_
    refine RL.ev (.indexO sl25 rfl rfl (by omega)) rfl rfl ?_
    refine RL.store sh69 rfl rfl rfl hbN (by rw [flat_len (sz := 16) _ (fun r hr => by obtain ⟨z, _, rfl⟩ := List.mem_map.1 hr; rfl), List.length_map]; show 0 + at_ * 16 + 16 ≤ _; omega) (by rfl) rfl (fun w17 z17 hbN a17 => ?_)
    have G := G.trans a17
    have hI := hI.updD a17 dN
    have hb_3 := hb_3.upd a17 nN__3.symm
    have hb_8 := hb_8.upd a17 nN__8.symm
    have hbN := row_set0 (sz := 16) (i := at_) (by rw [Nat.zero_add] at hbN; exact hbN) (fun r hr => by obtain ⟨z, _, rfl⟩ := List.mem_map.1 hr; rfl) (by rw [List.length_map]; omega) rfl
    refine RL.nil (RC.back ?_)
    refine RC.seq ?_
    refine RC.region rfl ?_
    refine RL.ev (.move rfl) rfl rfl ?_
    refine RL.ev (.as (.bin rfl rfl rfl) (wi64 (y := (at_ : Int) + 1) (by rfl) (by omega))) rfl rfl ?_
    refine RL.ev (.as (.conv i3 i30 rfl) (wu64 (y := (at_ : Int) + 1) (by rfl) (by omega))) rfl rfl ?_
    refine RL.ev (.assign rfl) rfl rfl ?_
    refine RL.nil (RC.back ?_)
    refine RC.done (rs := [.tmp 6]) (vs := [_]) rfl rfl ⟨rfl, trivial⟩ ?_
    -- end 2
    rw [hres]
    exact ⟨rfl, G, by rw [List.map_set]; exact hbN⟩

theorem c_build (size : Nat) (l : List It) (a : Option Addr) (c m : Nat) (hm : m = l.length) (hc : l.length ≤ c) (hs : Srt l) (hok : ∀ z ∈ l, z.ok) (h : l.length ≤ size) (h1 : 1 ≤ size) (h2 : size ≤ 512) (w : World) (hl : Sl w a 2 (l.map It.cells)) :
    FC Try.prog 8 [.int .i64 (size : Int), .slice a m c] w (fun v w' => ∃ na fa nc fc, v = .tuple #[arV na fa nc fc (buildA size l), .int .u64 (buildR size l)] ∧ (buildA size l).nodes.length ≤ nc ∧ (buildA size l).free.length ≤ fc ∧ (∀ N : Nat → Prop, (∀ k, N k → k < w.heap.size) → Imm N (fun u => ArR u na fa (buildA size l)) w') ∧ Sub w w') := by
  subst hm
  have hB := build_ok hs h h1 h2
  have hBl := hB.len
  have hBf := hB.free
  refine FC.intro Try.func8 rfl Try.ntmps8 rfl ?_
  have S := Sub.refl w
  refine RC.seq ?_
  refine RC.region rfl ?_
  refine RL.alloc ze28 rfl rfl (fun b_4 w_4 e_4 z_4 hb_4 s_4 => ?_)
  have ge_4 := S.le e_4
  have S := S.trans s_4
  refine RL.ev (.assign rfl) rfl rfl ?_
  refine RL.nil (RC.back ?_)
  refine RC.seq ?_
  refine RC.region rfl ?_
  refine RL.ev (.move rfl) rfl rfl ?_
  refine RL.makeSlice sl25 ze69 rfl rfl rfl rfl (by omega) rfl rfl (fun b_10 w_10 e_10 z_10 hb_10 s_10 => ?_)
  have ge_10 := S.le e_10
  have n_4__10 := hb_4.ne e_10
  have S := S.trans s_10
  have hb_4 := hb_4.sub s_10
  have hb_10 : Has w_10 b_10 ((List.replicate size (bareN 0)).map Node.cells).flatten 69 := by have := hb_10; rw [Int.toNat_natCast] at this; rw [List.map_replicate]; exact this
  refine RL.ev (.buildS ze28 pl28 rfl rfl) rfl rfl ?_
  refine RL.alloc ze28 rfl rfl (fun b_6 w_6 e_6 z_6 hb_6 s_6 => ?_)
  have ge_6 := S.le e_6
  have n_4__6 := hb_4.ne e_6
  have n_10__6 := hb_10.ne e_6
  have S := S.trans s_6
  have hb_4 := hb_4.sub s_6
  have hb_10 := hb_10.sub s_6
  refine RL.store sh28 rfl rfl rfl hb_6 (by exact Nat.le_of_ble_eq_true rfl) (by rfl) rfl (fun w1 z1 hb_6 a1 => ?_)
  have S := S.upd a1 ge_6
  have hb_4 := hb_4.upd a1 n_4__6
  have hb_10 := hb_10.upd a1 n_10__6
  have hb_6 : Has w1 b_6 ([.slice (some ⟨b_10, 0, none⟩) size size, .slice none 0 0]) _ := hb_6.now (by kernel_rfl)
  refine RL.nil (RC.back ?_)
  refine RC.seq ?_
  refine RC.region rfl ?_
  refine RL.ev (.loadR ([.slice (some ⟨b_10, 0, none⟩) size size, .slice none 0 0]) sh28 rfl hb_6.row rfl) rfl rfl ?_
  refine RL.ev (.move rfl) rfl rfl ?_
  refine RL.call rfl ok18 (c_lay b_10 size size (l.length + 1) (List.replicate size (bareN 0)) 0 l _ a c l.length w1 rfl hc (by omega) (by rw [List.length_replicate]; omega) List.length_replicate h2 ((Ft.of_sub (fun u s => hl.sub s)).sub S) (fun k hk e => by omega) hb_10) rfl rfl ?_
  rintro _ w2 ⟨rfl, ag1, hN1⟩
  have S := S.upd ag1 ge_10
  have hb_4 := hb_4.upd ag1 n_4__10
  have hb_6 := hb_6.upd ag1 n_10__6.symm
  have hb_10 : Has w2 b_10 ((buildA size l).nodes.map Node.cells).flatten 69 := hN1
  refine RL.ev (.assign rfl) rfl rfl ?_
  refine RL.nil (RC.back ?_)
  refine RC.seq ?_
  refine RC.seq ?_
  refine RC.region rfl ?_
  refine RL.ev (.move rfl) rfl rfl ?_
  refine RL.ev (.as (.bin rfl rfl rfl) (wi64 (y := (size : Int) - 1 - ((0 : Nat) : Int)) (by omega) (by omega))) rfl rfl ?_
  refine RL.ev (.assign rfl) rfl rfl ?_
  obtain ⟨E, hE⟩ : ∃ E, E = w2.heap.size := ⟨_, rfl⟩
  have lt4 := hb_4.lt
  have lt6 := hb_6.lt
  have lt10 := hb_10.lt
  have szS := S.size
  rw [← hE] at lt4 lt6 lt10 szS
  refine RL.nil (RC.back ?_)
  refine RC.block ?_
  refine RC.loop (α := Nat × Option Addr × Nat × Nat) (fun x => [(1, .slice a l.length c), (4, .pointer (some ⟨b_4, 0, none⟩)), (6, .pointer (some ⟨b_6, 0, none⟩)), (7, .int .u64 (buildR size l)), (8, .int .i64 ((size : Int) - 1 - (x.1 : Int)))]) (fun x w4 => x.1 ≤ size - l.length ∧ Ows E w4 3 1 (.slice x.2.1 x.2.2.1 x.2.2.2) ((freeB size x.1).map fun x => [i6 x]) ∧ Has w4 b_4 [.slice none 0 0, .slice none 0 0] 28 ∧ Has w4 b_6 [.slice (some ⟨b_10, 0, none⟩) size size, .slice x.2.1 x.2.2.1 x.2.2.2] 28 ∧ Has w4 b_10 ((buildA size l).nodes.map Node.cells).flatten 69 ∧ E ≤ w4.heap.size ∧ Sub w w4) (fun x => size - l.length - x.1) (0, none, 0, 0) (keep_of (by repeat (first | exact trivial | refine And.intro rfl ?_))) (⟨Nat.zero_le _, Ows.nil _ _ _ _, hb_4, hb_6, hb_10, by omega, S⟩) (fun x w4 hJ => ?_)
  obtain ⟨i, a_u, m_u, c_u⟩ := x; obtain ⟨hi, o, hb_4, hb_6, hb_10, szB, S⟩ := hJ; simp only [] at hi o hb_6; obtain rfl := o.sl.2; have hfl := freeB_len size i
  refine RC.seq ?_
  refine RC.seq ?_
  refine RC.region rfl ?_
  refine RL.ev (.move rfl) rfl rfl ?_
  refine RL.ev (.move rfl) rfl rfl ?_
  refine RL.ev (.len sl23 rfl) rfl rfl ?_
  refine RL.ev (.bin rfl rfl rfl) rfl rfl ?_
  refine RL.nil (RC.back ?_)
  refine RC.cond_dec rfl (fun h5 => ?_) (fun h5 => ?_)
  ·
    have d4 : ∀ k, ob (.slice a_u ((freeB size i).map fun x => [i6 x]).length c_u) = some k → k ≠ b_4 := fun k hk e => absurd (o.ge k hk).1 (by omega)
    have d6 : ∀ k, ob (.slice a_u ((freeB size i).map fun x => [i6 x]).length c_u) = some k → k ≠ b_6 := fun k hk e => absurd (o.ge k hk).1 (by omega)
    have d10 : ∀ k, ob (.slice a_u ((freeB size i).map fun x => [i6 x]).length c_u) = some k → k ≠ b_10 := fun k hk e => absurd (o.ge k hk).1 (by omega)
    refine RC.skip (RC.back ?_)
    refine RC.seq ?_
    refine RC.block ?_
    refine RC.region rfl ?_
    refine RL.ev (.field0 fo28_1 rfl) rfl rfl ?_
    refine RL.ev (.load1 sh26 rfl (hb_6.cell rfl)) rfl rfl ?_
    refine RL.ev (.move rfl) rfl rfl ?_
    refine RL.buildSlice1 sl26 _ ze3 rfl rfl rfl rfl rfl rfl rfl (fun b_26 w_26 e_26 z_26 hb_26 s_26 => ?_)
    have ge_26 := S.le e_26
    have n_4__26 := hb_4.ne e_26
    have n_6__26 := hb_6.ne e_26
    have n_10__26 := hb_10.ne e_26
    have d_o_b_26 := o.neNew e_26
    have S := S.trans s_26
    have hb_4 := hb_4.sub s_26
    have hb_6 := hb_6.sub s_26
    have hb_10 := hb_10.sub s_26
    have szB := Nat.le_trans szB s_26.size
    have o := o.sub s_26
    have sz_27 := S.size
    have ltb_4_27 := hb_4.lt
    have ltb_6_27 := hb_6.lt
    have ltb_10_27 := hb_10.lt
    have ltb_26_27 := hb_26.lt
    refine RL.append2 (base := E) (rows := (freeB size i).map fun x => [i6 x]) (news := [_]) sl26 ze3 rfl rfl rfl rfl (.inl o) (Has.slOne hb_26) rfl (by intro r hr; rw [List.mem_singleton] at hr; subst hr; rfl) rfl (by (try simp only [List.length_map, List.length_nil, List.length_append, List.length_cons]); omega) (by (try simp only [List.length_map, List.length_nil, List.length_append, List.length_cons]); omega) (by omega) rfl rfl (fun v_27 w_27 hc_27 ho_27 ag_27 ob_27 => ?_)
    have o27 := ho_27 (.inl (by simp))
    rw [show _ ++ [_] = ((freeB size i ++ [(size : Int) - 1 - (i : Int)]).map fun x => [i6 x]) from by rw [List.map_append]; rfl] at o27
    have d_o27_b_4 := obNe ob_27 d4 hb_4.lt
    have d_o27_b_6 := obNe ob_27 d6 hb_6.lt
    have d_o27_b_10 := obNe ob_27 d10 hb_10.lt
    have S := S.agrN ag_27 (fun k e => Nat.le_trans (by omega) e.2)
    have hb_4 := hb_4.step ag_27 (fun e => d4 _ e.1 rfl)
    have hb_6 := hb_6.step ag_27 (fun e => d6 _ e.1 rfl)
    have hb_10 := hb_10.step ag_27 (fun e => d10 _ e.1 rfl)
    have szB := Nat.le_trans szB ag_27.size
    obtain ⟨a_27, c_27, rfl, k_27⟩ := o27.form
    refine RL.ev (.field0 fo28_1 rfl) rfl rfl ?_
    refine RL.store sh26 rfl rfl rfl hb_6 (by exact Nat.le_of_ble_eq_true rfl) (by rfl) rfl (fun w6 z6 hb_6 a6 => ?_)
    have S := S.upd a6 ge_6
    have hb_4 := hb_4.upd a6 n_4__6
    have hb_10 := hb_10.upd a6 n_10__6
    have szB := Nat.le_trans szB a6.size
    have o27 := o27.updD a6 d_o27_b_6
    have hb_6 : Has w6 b_6 ([.slice (some ⟨b_10, 0, none⟩) size size, .slice a_27 ((freeB size i ++ [(size : Int) - 1 - (i : Int)]).map fun x => [i6 x]).length c_27]) _ := hb_6
    refine RL.nil (RC.back ?_)
    refine RC.region rfl ?_
    refine RL.ev (.move rfl) rfl rfl ?_
    refine RL.ev (.as (.bin rfl rfl rfl) (wi64 (y := (size : Int) - 1 - ((i + 1 : Nat) : Int)) (by omega) (by omega))) rfl rfl ?_
    refine RL.ev (.assign rfl) rfl rfl ?_
    exact RL.nil (fun a ka => ⟨(i + 1, a_27, _, c_27), ⟨by omega, by rw [freeB_succ]; exact o27, hb_4, hb_6, hb_10, szB, S⟩, by omega, ka.keep (keep_of (by repeat (first | exact trivial | refine And.intro rfl ?_)))⟩)
  ·
    obtain rfl : i = size - l.length := (by omega)
    have d4 : ∀ k, ob (.slice a_u ((freeB size (size - l.length)).map fun x => [i6 x]).length c_u) = some k → k ≠ b_4 := fun k hk e => absurd (o.ge k hk).1 (by omega)
    have d6 : ∀ k, ob (.slice a_u ((freeB size (size - l.length)).map fun x => [i6 x]).length c_u) = some k → k ≠ b_6 := fun k hk e => absurd (o.ge k hk).1 (by omega)
    have d10 : ∀ k, ob (.slice a_u ((freeB size (size - l.length)).map fun x => [i6 x]).length c_u) = some k → k ≠ b_10 := fun k hk e => absurd (o.ge k hk).1 (by omega)
    refine RC.exit rfl (RC.back ?_)
    refine RC.seq ?_
    refine RC.region rfl ?_
    refine RL.ev (.loadR ([.slice (some ⟨b_10, 0, none⟩) size size, .slice a_u ((freeB size (size - l.length)).map fun x => [i6 x]).length c_u]) sh28 rfl hb_6.row rfl) rfl rfl ?_
    refine RL.ev (.move rfl) rfl rfl ?_
    refine RL.store sh28 rfl rfl rfl hb_4 (by exact Nat.le_of_ble_eq_true rfl) (by rfl) rfl (fun w7 z7 hb_4 a7 => ?_)
    have S := S.upd a7 ge_4
    have hb_6 := hb_6.upd a7 n_4__6.symm
    have hb_10 := hb_10.upd a7 n_4__10.symm
    have szB := Nat.le_trans szB a7.size
    have o := o.updD a7 d4
    have hb_4 : Has w7 b_4 ([.slice (some ⟨b_10, 0, none⟩) size size, .slice a_u ((freeB size (size - l.length)).map fun x => [i6 x]).length c_u]) _ := hb_4.now (by kernel_rfl)
    refine RL.ev (.assign rfl) rfl rfl ?_
    refine RL.nil (RC.back ?_)
    refine RC.done (rs := [.cell 4 28, .tmp 5]) (vs := [_, _]) rfl rfl ⟨⟨_, rfl, .inr ⟨[.slice (some ⟨b_10, 0, none⟩) size size, .slice a_u ((freeB size (size - l.length)).map fun x => [i6 x]).length c_u], sh28, hb_4.row, rfl⟩⟩, rfl, trivial⟩ ?_
    -- end 1
    have kc := o.form
    obtain ⟨_, c', e, hk⟩ := kc
    cases e
    rw [List.length_map] at hk
    refine ⟨some ⟨b_10, 0, none⟩, a_u, size, c_u, ?_, by omega, hk, fun N hN u hu => ⟨?_, (o.imm (N := N) (fun k hk => by have := hN k hk; omega)) u hu, hB.nok hok, ?_⟩, S⟩
    · show tup [Value.agg _, _] = _
      simp only [arV, hBl, List.length_map]
      rfl
    · exact Has.sl0 (hb_10.step hu (fun e => by have := hN _ e; omega)) (fun r hr => by obtain ⟨z, _, rfl⟩ := List.mem_map.1 hr; rfl)
    · intro x hx
      have := freeB_mem.1 hx
      unfold I64
      omega
end Go.Proofs.Ytdmaogopibljoaa
