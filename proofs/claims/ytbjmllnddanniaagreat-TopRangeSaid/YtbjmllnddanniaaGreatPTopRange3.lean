/-
  What the law TopRange leans on, part 3.
-/
import Derived.Test.YtbjmllnddanniaaGreatPTopRange2
set_option linter.unusedVariables false
set_option linter.unusedSimpArgs false
namespace Go.Proofs.YtbjmllnddanniaaGreat
open Go Go.XL
set_option maxHeartbeats 2000000 in
theorem c_lay (bN cN nn : Nat) : ∀ (k : Nat) (ns : List Node) (at_ : Nat) (l : List It) (M : Nat → Prop) (a : Option Addr) (c m : Nat) (w : World), m = l.length → l.length ≤ c → l.length < k → at_ + l.length ≤ ns.length → ns.length = nn → nn ≤ 512 → Ft M (fun u => Sl u a 2 (l.map It.cells)) w → (∀ k, M k → k ≠ bN) → Has w bN (ns.map Node.cells).flatten 140 →
    FC Tryz.prog 67 [.agg #[.slice (some ⟨bN, 0, none⟩) nn cN, .slice none 0 0], .int .i64 (at_ : Int), .slice a m c] w (fun v w' => v = .int .u64 (layF k ns at_ l).2 ∧ Agr (· = bN) w w' ∧ Has w' bN ((layF k ns at_ l).1.map Node.cells).flatten 140) := by
  intro k
  induction k with
  | zero => intro ns at_ l M a c m w _ _ h; omega
  | succ k ih =>
  intro ns at_ l M a c m w hm hc hk hat hnn h512 hI dN hbN
  subst hm
  refine FC.intro Tryz.func67 rfl Tryz.ntmps67 rfl ?_
  have G : Agr (· = bN) w w := Agr.refl _ _
  refine RC.seq ?_
  refine RC.region rfl ?_
  refine RL.box rfl rfl rfl (fun b_3 w_3 e_3 z_3 hb_3 s_3 => ?_)
  have nN__3 := hbN.ne e_3
  have d_hI_b_3 := hI.neNew e_3
  have geG_3 := agLe G e_3
  have G := G.trans s_3.agr
  have hbN := hbN.sub s_3
  have hI := hI.sub s_3
  have hb_3 : Has w_3 b_3 ([.slice (some ⟨bN, 0, none⟩) nn cN, .slice none 0 0]) _ := hb_3
  refine RL.ev (.assign rfl) rfl rfl ?_
  refine RL.nil (RC.back ?_)
  refine RC.seq ?_
  refine RC.region rfl ?_
  refine RL.ev (.move rfl) rfl rfl ?_
  refine RL.call rfl ok61 (c_top l a c l.length rfl w_3 hI.now (by omega)) rfl rfl ?_
  rintro _ w1 ⟨rfl, s2⟩
  have G := G.trans s2.agr
  have hbN := hbN.sub s2
  have hI := hI.sub s2
  have hb_3 := hb_3.sub s2
  refine RL.ev (.assign rfl) rfl rfl ?_
  refine RL.nil (RC.back ?_)
  refine RC.seq ?_
  refine RC.seq ?_
  refine RC.region rfl ?_
  refine RL.ev (.move rfl) rfl rfl ?_
  refine RL.ev (.bin rfl rfl rfl) rfl rfl ?_
  refine RL.nil (RC.back ?_)
  refine RC.cond_dec rfl (fun h3 => ?_) (fun h3 => ?_)
  ·
    obtain rfl := topL_neg h3
    refine RC.seq ?_
    refine RC.region rfl ?_
    refine RL.ev (.assign rfl) rfl rfl ?_
    refine RL.nil (RC.back ?_)
    refine RC.done (rs := [.tmp 6]) (vs := [_]) rfl rfl ⟨rfl, trivial⟩ ?_
    -- end 1
    exact ⟨rfl, G, hbN⟩
  ·
    have ht := h3
    have hlp : 0 < l.length := (by rcases Nat.eq_zero_or_pos l.length with e | e; (rw [List.eq_nil_of_length_eq_zero e] at ht; exact absurd (show topL [] < 0 by decide) ht); exact e)
    have htr := topL_rng hlp
    obtain ⟨it, hit⟩ := getSome (l := l) (i := (topL l).toNat) (by omega)
    have hgd : l.getD (topL l).toNat it0 = it := (by rw [List.getD_eq_getElem?_getD, hit]; rfl)
    obtain ⟨t, ht2⟩ : ∃ t : Nat, topL l = t := ⟨(topL l).toNat, by omega⟩
    have ht3 : (topL l).toNat = t := (by rw [ht2]; rfl)
    rw [ht3] at hit hgd
    rw [ht2] at htr
    have hL : (l.take t).length = t := (by rw [List.length_take]; omega)
    have hR : (l.drop (t + 1)).length = l.length - (t + 1) := List.length_drop
    refine RC.skip (RC.back ?_)
    refine RC.seq ?_
    refine RC.drawD (fun k => False) [14] w1.heap.size 15 rfl rfl mxo (fun w4 s5 => ?_)
    have ltD_bN := hbN.lt
    have ltD_hI := fun k hk => (hI.ge k hk).2
    have ltD_b_3 := hb_3.lt
    have szD := Nat.le_refl w1.heap.size
    have G := G.trans s5.agr
    have hbN := hbN.sub s5
    have hI := hI.sub s5
    have hb_3 := hb_3.sub s5
    have szD := Nat.le_trans szD s5.size
    refine RD.take 0 rfl (by kernel_rfl) (by kernel_rfl) (by kernel_rfl) (fun w' s' => .move rfl) rfl rfl ?_
    refine RD.take 1 rfl (by kernel_rfl) (by kernel_rfl) (by kernel_rfl) (fun w' s' => .as (v' := .int .i64 (t : Int)) (.move rfl) (by rw [ht2])) rfl rfl ?_
    refine RD.take 2 rfl (by kernel_rfl) (by kernel_rfl) (by kernel_rfl) (fun w' s' => .indexS sl42 rfl rfl (by omega) (hI.now.is (i := 0) (by simp only [List.length_map, List.length_cons, List.length_nil]; omega))) rfl rfl ?_
    refine RD.take 3 rfl (by kernel_rfl) (by kernel_rfl) (by kernel_rfl) (fun w' s' => .fieldA fo51_0 rfl) rfl rfl ?_
    refine RD.take 4 rfl (by kernel_rfl) (by kernel_rfl) (by kernel_rfl) (fun w' s' => .load1 sh2 rfl ((hI.step s' (fun k hk e => e.elim (fun e => e.elim) (Nat.not_le.2 (ltD_hI k hk)))).now.cell (enc := It.cells) (j := 0) hit rfl)) rfl rfl ?_
    refine RD.take 5 rfl (by kernel_rfl) (by kernel_rfl) (by kernel_rfl) (fun w' s' => .move rfl) rfl rfl ?_
    refine RD.take 6 rfl (by kernel_rfl) (by kernel_rfl) (by kernel_rfl) (fun w' s' => .as (v' := .int .i64 (t : Int)) (.move rfl) (by rw [ht2])) rfl rfl ?_
    refine RD.take 7 rfl (by kernel_rfl) (by kernel_rfl) (by kernel_rfl) (fun w' s' => .indexS sl42 rfl rfl (by omega) (hI.now.is (i := 0) (by simp only [List.length_map, List.length_cons, List.length_nil]; omega))) rfl rfl ?_
    refine RD.take 8 rfl (by kernel_rfl) (by kernel_rfl) (by kernel_rfl) (fun w' s' => .fieldA fo51_1 rfl) rfl rfl ?_
    refine RD.take 9 rfl (by kernel_rfl) (by kernel_rfl) (by kernel_rfl) (fun w' s' => .load1 sh2 rfl ((hI.step s' (fun k hk e => e.elim (fun e => e.elim) (Nat.not_le.2 (ltD_hI k hk)))).now.cell (enc := It.cells) (j := 1) hit rfl)) rfl rfl ?_
    refine RD.take 10 rfl (by kernel_rfl) (by kernel_rfl) (by kernel_rfl) (fun w' s' => .move rfl) rfl rfl ?_
    refine RD.take 11 rfl (by kernel_rfl) (by kernel_rfl) (by kernel_rfl) (fun w' s' => .len sl42 rfl) rfl rfl ?_
    refine RD.take 12 rfl (by kernel_rfl) (by kernel_rfl) (by kernel_rfl) (fun w' s' => .buildS ze140 pl140 rfl rfl) rfl rfl ?_
    refine RD.all [13] (by kernel_rfl) rfl (RDs.cons rfl ?_ (RDs.nil))
    refine RL.alloc ze140 rfl rfl (fun b_8 w_8 e_8 z_8 hb_8 s_8 => ?_)
    have fr_b_8 : w1.heap.size ≤ b_8 := by rw [e_8]; exact szD
    have nN__8 := hbN.ne e_8
    have n_3__8 := hb_3.ne e_8
    have d_hI_b_8 := hI.neNew e_8
    have geG_8 := agLe G e_8
    have G := G.trans s_8.agr
    have hbN := hbN.sub s_8
    have hI := hI.sub s_8
    have hb_3 := hb_3.sub s_8
    have szD := Nat.le_trans szD s_8.size
    refine RD.back s_8.agr ?_
    refine RD.all [14] (by kernel_rfl) rfl (RDs.cons rfl ?_ (RDs.nil))
    refine RL.store sh140 rfl rfl rfl hb_8 (by exact Nat.le_of_ble_eq_true rfl) (by rfl) rfl (fun w6 z6 hb_8 a6 => ?_)
    have G := agNew G a6 geG_8
    have hbN := hbN.upd a6 nN__8
    have hI := hI.updD a6 d_hI_b_8
    have hb_3 := hb_3.upd a6 n_3__8
    have szD := Nat.le_trans szD a6.size
    have hb_8 : Has w6 b_8 ((tNode 0 it.k it.v l.length 0 0).cells) _ := hb_8.now (by kernel_rfl)
    refine RD.backW rfl (a6.mono fun k _ e => e ▸ (.inr fr_b_8)) ?_
    refine RD.done (by kernel_rfl) (RC.back ?_)
    refine RC.seq ?_
    refine RC.drawD (fun k => k = b_8 ∨ k = bN) [6, 9] w6.heap.size 10 rfl rfl mxo (fun w7 s8 => ?_)
    have ltD_bN := hbN.lt
    have ltD_hI := fun k hk => (hI.ge k hk).2
    have ltD_b_3 := hb_3.lt
    have ltD_b_8 := hb_8.lt
    have szD := Nat.le_refl w6.heap.size
    have G := G.trans s8.agr
    have hbN := hbN.sub s8
    have hI := hI.sub s8
    have hb_3 := hb_3.sub s8
    have hb_8 := hb_8.sub s8
    have szD := Nat.le_trans szD s8.size
    refine RD.take 0 rfl (by kernel_rfl) (by kernel_rfl) (by kernel_rfl) (fun w' s' => .loadR ([.slice (some ⟨bN, 0, none⟩) nn cN, .slice none 0 0]) sh26 rfl (hb_3.step s' (fun e => e.elim (fun e => e.elim (fun e => n_3__8 e) (fun e => nN__3.symm e)) (fun e => Nat.not_le.2 ltD_b_3 e))).row rfl) rfl rfl ?_
    refine RD.take 1 rfl (by kernel_rfl) (by kernel_rfl) (by kernel_rfl) (fun w' s' => .move rfl) rfl rfl ?_
    refine RD.take 2 rfl (by kernel_rfl) (by kernel_rfl) (by kernel_rfl) (fun w' s' => .as (.bin rfl rfl rfl) (wi64 (y := ((at_ + 1 : Nat) : Int)) (by omega) (by omega))) rfl rfl ?_
    refine RD.take 3 rfl (by kernel_rfl) (by kernel_rfl) (by kernel_rfl) (fun w' s' => .move rfl) rfl rfl ?_
    refine RD.take 4 rfl (by kernel_rfl) (by kernel_rfl) (by kernel_rfl) (fun w' s' => .as (v' := .int .i64 (t : Int)) (.move rfl) (by rw [ht2])) rfl rfl ?_
    refine RD.take 5 rfl (by kernel_rfl) (by kernel_rfl) (by kernel_rfl) (fun w' s' => .sliceHi sl42 rfl rfl (by omega)) rfl rfl ?_
    refine RD.take 7 rfl (by kernel_rfl) (by kernel_rfl) (by kernel_rfl) (fun w' s' => .field0 fo140_5 rfl) rfl rfl ?_
    refine RD.all [6] (by kernel_rfl) rfl (RDs.cons rfl ?_ (RDs.nil))
    refine RL.call rfl ok67 (ih ns (at_ + 1) (l.take t) M a c t w7 hL.symm (by omega) (by omega) (by omega) hnn h512 (hI.imp fun u h => slTakeM h _) dN hbN) rfl rfl ?_
    rintro v1 w9 ⟨hv1, ag1, hN1⟩
    have G := G.trans ag1
    have hI := hI.updD ag1 dN
    have hb_3 := hb_3.upd ag1 nN__3.symm
    have hb_8 := hb_8.upd ag1 nN__8.symm
    have szD := Nat.le_trans szD ag1.size
    obtain ⟨⟨n1, a1⟩, h1⟩ : ∃ p, layF k ns (at_ + 1) (l.take t) = p := ⟨_, rfl⟩
    have e1 := layF_len k ns (at_ + 1) (l.take t)
    rw [h1] at hv1 hN1 e1
    simp only [] at hv1 hN1 e1
    subst hv1
    have hbN := hN1
    refine RD.backW rfl (ag1.mono fun k _ e => .inl (.inr e)) ?_
    refine RD.take 8 rfl (by kernel_rfl) (by kernel_rfl) (by kernel_rfl) (fun w' s' => .indexArr ar138 rfl rfl (by omega)) rfl rfl ?_
    refine RD.all [9] (by kernel_rfl) rfl (RDs.cons rfl ?_ (RDs.nil))
    refine RL.store sh31 rfl rfl rfl hb_8 (by exact Nat.le_of_ble_eq_true rfl) (by rfl) rfl (fun w11 z11 hb_8 a11 => ?_)
    have G := agNew G a11 geG_8
    have hbN := hbN.upd a11 nN__8
    have hI := hI.updD a11 d_hI_b_8
    have hb_3 := hb_3.upd a11 n_3__8
    have szD := Nat.le_trans szD a11.size
    have hb_8 : Has w11 b_8 (tNode 0 it.k it.v l.length a1 0).cells 140 := hb_8
    refine RD.backW rfl (a11.mono fun k _ e => e ▸ (.inl (.inl rfl))) ?_
    refine RD.done (by kernel_rfl) (RC.back ?_)
    refine RC.seq ?_
    refine RC.drawD (fun k => k = b_8 ∨ k = bN) [9, 12] w11.heap.size 13 rfl rfl mxo (fun w12 s13 => ?_)
    have ltD_bN := hbN.lt
    have ltD_hI := fun k hk => (hI.ge k hk).2
    have ltD_b_3 := hb_3.lt
    have ltD_b_8 := hb_8.lt
    have szD := Nat.le_refl w11.heap.size
    have G := G.trans s13.agr
    have hbN := hbN.sub s13
    have hI := hI.sub s13
    have hb_3 := hb_3.sub s13
    have hb_8 := hb_8.sub s13
    have szD := Nat.le_trans szD s13.size
    refine RD.take 0 rfl (by kernel_rfl) (by kernel_rfl) (by kernel_rfl) (fun w' s' => .loadR ([.slice (some ⟨bN, 0, none⟩) nn cN, .slice none 0 0]) sh26 rfl (hb_3.step s' (fun e => e.elim (fun e => e.elim (fun e => n_3__8 e) (fun e => nN__3.symm e)) (fun e => Nat.not_le.2 ltD_b_3 e))).row rfl) rfl rfl ?_
    refine RD.take 1 rfl (by kernel_rfl) (by kernel_rfl) (by kernel_rfl) (fun w' s' => .move rfl) rfl rfl ?_
    refine RD.take 2 rfl (by kernel_rfl) (by kernel_rfl) (by kernel_rfl) (fun w' s' => .as (.bin rfl rfl rfl) (wi64 (y := ((at_ + 1 : Nat) : Int)) (by omega) (by omega))) rfl rfl ?_
    refine RD.take 3 rfl (by kernel_rfl) (by kernel_rfl) (by kernel_rfl) (fun w' s' => .as (v' := .int .i64 (t : Int)) (.move rfl) (by rw [ht2])) rfl rfl ?_
    refine RD.take 4 rfl (by kernel_rfl) (by kernel_rfl) (by kernel_rfl) (fun w' s' => .as (.bin rfl rfl rfl) (wi64 (y := ((at_ + 1 + t : Nat) : Int)) (by omega) (by omega))) rfl rfl ?_
    refine RD.take 5 rfl (by kernel_rfl) (by kernel_rfl) (by kernel_rfl) (fun w' s' => .move rfl) rfl rfl ?_
    refine RD.take 6 rfl (by kernel_rfl) (by kernel_rfl) (by kernel_rfl) (fun w' s' => .as (v' := .int .i64 (t : Int)) (.move rfl) (by rw [ht2])) rfl rfl ?_
    refine RD.take 7 rfl (by kernel_rfl) (by kernel_rfl) (by kernel_rfl) (fun w' s' => .as (.bin rfl rfl rfl) (wi64 (y := ((t + 1 : Nat) : Int)) (by omega) (by omega))) rfl rfl ?_
    refine RD.take 8 rfl (by kernel_rfl) (by kernel_rfl) (by kernel_rfl) (fun w' s' => .sliceLo sl42 rfl rfl (by omega)) rfl rfl ?_
    refine RD.take 10 rfl (by kernel_rfl) (by kernel_rfl) (by kernel_rfl) (fun w' s' => .field0 fo140_5 rfl) rfl rfl ?_
    refine RD.all [9] (by kernel_rfl) rfl (RDs.cons rfl ?_ (RDs.nil))
    refine RL.call rfl ok67 (ih n1 (at_ + 1 + t) (l.drop (t + 1)) M _ _ (l.length - (t + 1)) w12 hR.symm (by rw [hR]; show _ ≤ c - (t + 1); omega) (by omega) (by omega) (by omega) h512 (hI.imp fun u h => slDropM h (t + 1) hc) dN hbN) rfl rfl ?_
    rintro v2 w14 ⟨hv2, ag2, hN2⟩
    have G := G.trans ag2
    have hI := hI.updD ag2 dN
    have hb_3 := hb_3.upd ag2 nN__3.symm
    have hb_8 := hb_8.upd ag2 nN__8.symm
    have szD := Nat.le_trans szD ag2.size
    obtain ⟨⟨n2, a2⟩, h2⟩ : ∃ p, layF k n1 (at_ + 1 + t) (l.drop (t + 1)) = p := ⟨_, rfl⟩
    have e2 := layF_len k n1 (at_ + 1 + t) (l.drop (t + 1))
    rw [h2] at hv2 hN2 e2
    simp only [] at hv2 hN2 e2
    subst hv2
    have hbN := hN2
    refine RD.backW rfl (ag2.mono fun k _ e => .inl (.inr e)) ?_
    refine RD.take 11 rfl (by kernel_rfl) (by kernel_rfl) (by kernel_rfl) (fun w' s' => .indexArr ar138 rfl rfl (by omega)) rfl rfl ?_
    refine RD.all [12] (by kernel_rfl) rfl (RDs.cons rfl ?_ (RDs.nil))
    refine RL.store sh31 rfl rfl rfl hb_8 (by exact Nat.le_of_ble_eq_true rfl) (by rfl) rfl (fun w16 z16 hb_8 a16 => ?_)
    have G := agNew G a16 geG_8
    have hbN := hbN.upd a16 nN__8
    have hI := hI.updD a16 d_hI_b_8
    have hb_3 := hb_3.upd a16 n_3__8
    have szD := Nat.le_trans szD a16.size
    have hb_8 : Has w16 b_8 (tNode 0 it.k it.v l.length a1 a2).cells 140 := hb_8
    have hres : layF (k + 1) ns at_ l = (n2.set at_ (tNode 0 it.k it.v l.length a1 a2), (at_ : Int) + 1) := (by rw [layF, if_neg ht, ht3, hgd, h1]; simp only []; rw [h2])
    refine RD.backW rfl (a16.mono fun k _ e => e ▸ (.inl (.inl rfl))) ?_
    refine RD.done (by kernel_rfl) (RC.back ?_)
    refine RC.seq ?_
    refine RC.region rfl ?_
    refine RL.ev (.field0 fo26_0 rfl) rfl rfl ?_
    refine RL.ev (.load1 sh23 rfl (hb_3.cell rfl)) rfl rfl ?_
    refine RL.ev (.move rfl) rfl rfl ?_
    refine RL.ev (.loadR ((tNode 0 it.k it.v l.length a1 a2).cells) sh140 rfl hb_8.row rfl) rfl rfl ?_
    refine RL.ev (.indexO sl23 rfl rfl (by omega)) rfl rfl ?_
    refine RL.store sh140 rfl rfl rfl hbN (by rw [flat_len (sz := 16) _ (fun r hr => by obtain ⟨z, _, rfl⟩ := List.mem_map.1 hr; rfl), List.length_map]; show 0 + at_ * 16 + 16 ≤ _; omega) (by rfl) rfl (fun w17 z17 hbN a17 => ?_)
    have G := G.trans a17
    have hI := hI.updD a17 dN
    have hb_3 := hb_3.upd a17 nN__3.symm
    have hb_8 := hb_8.upd a17 nN__8.symm
    have hbN := row_set0 (sz := 16) (i := at_) (by rw [Nat.zero_add] at hbN; exact hbN) (fun r hr => by obtain ⟨z, _, rfl⟩ := List.mem_map.1 hr; rfl) (by rw [List.length_map]; omega) rfl
    refine RL.nil (RC.back ?_)
    refine RC.seq ?_
    refine RC.region rfl ?_
    refine RL.ev (.move rfl) rfl rfl ?_
    refine RL.ev (.as (.bin rfl rfl rfl) (wi64 (y := (at_ : Int) + 1) (by rfl) (by omega))) rfl rfl ?_
    refine RL.ev (.as (.conv i3 i31 rfl) (wu64 (y := (at_ : Int) + 1) (by rfl) (by omega))) rfl rfl ?_
    refine RL.ev (.assign rfl) rfl rfl ?_
    refine RL.nil (RC.back ?_)
    refine RC.done (rs := [.tmp 6]) (vs := [_]) rfl rfl ⟨rfl, trivial⟩ ?_
    -- end 2
    rw [hres]
    exact ⟨rfl, G, by rw [List.map_set]; exact hbN⟩

theorem c_build (size : Nat) (l : List It) (a : Option Addr) (c m : Nat) (hm : m = l.length) (hc : l.length ≤ c) (hs : Srt l) (hok : ∀ z ∈ l, z.ok) (h : l.length ≤ size) (h1 : 1 ≤ size) (h2 : size ≤ 512) (w : World) (hl : Sl w a 2 (l.map It.cells)) :
    FC Tryz.prog 28 [.int .i64 (size : Int), .slice a m c] w (fun v w' => ∃ na fa nc fc, v = .tuple #[arV na fa nc fc (buildA size l), .int .u64 (buildR size l)] ∧ (buildA size l).nodes.length ≤ nc ∧ (buildA size l).free.length ≤ fc ∧ (∀ N : Nat → Prop, (∀ k, N k → k < w.heap.size) → Imm N (fun u => ArR u na fa (buildA size l)) w') ∧ Sub w w') := by
  subst hm
  have hB := build_ok hs h h1 h2
  have hBl := hB.len
  have hBf := hB.free
  refine FC.intro Tryz.func28 rfl Tryz.ntmps28 rfl ?_
  have S := Sub.refl w
  refine RC.seq ?_
  refine RC.region rfl ?_
  refine RL.alloc ze26 rfl rfl (fun b_4 w_4 e_4 z_4 hb_4 s_4 => ?_)
  have ge_4 := S.le e_4
  have S := S.trans s_4
  refine RL.ev (.assign rfl) rfl rfl ?_
  refine RL.nil (RC.back ?_)
  refine RC.seq ?_
  refine RC.region rfl ?_
  refine RL.ev (.move rfl) rfl rfl ?_
  refine RL.makeSlice sl23 ze140 rfl rfl rfl rfl (by omega) rfl rfl (fun b_10 w_10 e_10 z_10 hb_10 s_10 => ?_)
  have ge_10 := S.le e_10
  have n_4__10 := hb_4.ne e_10
  have S := S.trans s_10
  have hb_4 := hb_4.sub s_10
  have hb_10 : Has w_10 b_10 ((List.replicate size (bareN 0)).map Node.cells).flatten 140 := by have := hb_10; rw [Int.toNat_natCast] at this; rw [List.map_replicate]; exact this
  refine RL.ev (.buildS ze26 pl26 rfl rfl) rfl rfl ?_
  refine RL.alloc ze26 rfl rfl (fun b_6 w_6 e_6 z_6 hb_6 s_6 => ?_)
  have ge_6 := S.le e_6
  have n_4__6 := hb_4.ne e_6
  have n_10__6 := hb_10.ne e_6
  have S := S.trans s_6
  have hb_4 := hb_4.sub s_6
  have hb_10 := hb_10.sub s_6
  refine RL.store sh26 rfl rfl rfl hb_6 (by exact Nat.le_of_ble_eq_true rfl) (by rfl) rfl (fun w1 z1 hb_6 a1 => ?_)
  have S := S.upd a1 ge_6
  have hb_4 := hb_4.upd a1 n_4__6
  have hb_10 := hb_10.upd a1 n_10__6
  have hb_6 : Has w1 b_6 ([.slice (some ⟨b_10, 0, none⟩) size size, .slice none 0 0]) _ := hb_6.now (by kernel_rfl)
  refine RL.nil (RC.back ?_)
  refine RC.seq ?_
  refine RC.region rfl ?_
  refine RL.ev (.loadR ([.slice (some ⟨b_10, 0, none⟩) size size, .slice none 0 0]) sh26 rfl hb_6.row rfl) rfl rfl ?_
  refine RL.ev (.move rfl) rfl rfl ?_
  refine RL.call rfl ok67 (c_lay b_10 size size (l.length + 1) (List.replicate size (bareN 0)) 0 l _ a c l.length w1 rfl hc (by omega) (by rw [List.length_replicate]; omega) List.length_replicate h2 ((Ft.of_sub (fun u s => hl.sub s)).sub S) (fun k hk e => by omega) hb_10) rfl rfl ?_
  rintro _ w2 ⟨rfl, ag1, hN1⟩
  have S := S.upd ag1 ge_10
  have hb_4 := hb_4.upd ag1 n_4__10
  have hb_6 := hb_6.upd ag1 n_10__6.symm
  have hb_10 : Has w2 b_10 ((buildA size l).nodes.map Node.cells).flatten 140 := hN1
  refine RL.ev (.assign rfl) rfl rfl ?_
  refine RL.nil (RC.back ?_)
  refine RC.seq ?_
  refine RC.seq ?_
  refine RC.region rfl ?_
  refine RL.ev (.move rfl) rfl rfl ?_
  refine RL.ev (.as (.bin rfl rfl rfl) (wi64 (y := (size : Int) - 1 - ((0 : Nat) : Int)) (by omega) (by omega))) rfl rfl ?_
  refine RL.ev (.assign rfl) rfl rfl ?_
  obtain ⟨E, hE⟩ : ∃ E, E = w2.heap.size := ⟨_, rfl⟩
  have lt4 := hb_4.lt
  have lt6 := hb_6.lt
  have lt10 := hb_10.lt
  have szS := S.size
  rw [← hE] at lt4 lt6 lt10 szS
  refine RL.nil (RC.back ?_)
  refine RC.block ?_
  refine RC.loop (α := Nat × Option Addr × Nat × Nat) (fun x => [(1, .slice a l.length c), (4, .pointer (some ⟨b_4, 0, none⟩)), (6, .pointer (some ⟨b_6, 0, none⟩)), (7, .int .u64 (buildR size l)), (8, .int .i64 ((size : Int) - 1 - (x.1 : Int)))]) (fun x w4 => x.1 ≤ size - l.length ∧ Ows E w4 3 1 (.slice x.2.1 x.2.2.1 x.2.2.2) ((freeB size x.1).map fun x => [i6 x]) ∧ Has w4 b_4 [.slice none 0 0, .slice none 0 0] 26 ∧ Has w4 b_6 [.slice (some ⟨b_10, 0, none⟩) size size, .slice x.2.1 x.2.2.1 x.2.2.2] 26 ∧ Has w4 b_10 ((buildA size l).nodes.map Node.cells).flatten 140 ∧ E ≤ w4.heap.size ∧ Sub w w4) (fun x => size - l.length - x.1) (0, none, 0, 0) (keep_of (by repeat (first | exact trivial | refine And.intro rfl ?_))) (⟨Nat.zero_le _, Ows.nil _ _ _ _, hb_4, hb_6, hb_10, by omega, S⟩) (fun x w4 hJ => ?_)
  obtain ⟨i, a_u, m_u, c_u⟩ := x; obtain ⟨hi, o, hb_4, hb_6, hb_10, szB, S⟩ := hJ; simp only [] at hi o hb_6; obtain rfl := o.sl.2; have hfl := freeB_len size i
  refine RC.seq ?_
  refine RC.seq ?_
  refine RC.region rfl ?_
  refine RL.ev (.move rfl) rfl rfl ?_
  refine RL.ev (.move rfl) rfl rfl ?_
  refine RL.ev (.len sl42 rfl) rfl rfl ?_
  refine RL.ev (.bin rfl rfl rfl) rfl rfl ?_
  refine RL.nil (RC.back ?_)
  refine RC.cond_dec rfl (fun h5 => ?_) (fun h5 => ?_)
  ·
    have d4 : ∀ k, ob (.slice a_u ((freeB size i).map fun x => [i6 x]).length c_u) = some k → k ≠ b_4 := fun k hk e => absurd (o.ge k hk).1 (by omega)
    have d6 : ∀ k, ob (.slice a_u ((freeB size i).map fun x => [i6 x]).length c_u) = some k → k ≠ b_6 := fun k hk e => absurd (o.ge k hk).1 (by omega)
    have d10 : ∀ k, ob (.slice a_u ((freeB size i).map fun x => [i6 x]).length c_u) = some k → k ≠ b_10 := fun k hk e => absurd (o.ge k hk).1 (by omega)
    refine RC.skip (RC.back ?_)
    refine RC.seq ?_
    refine RC.block ?_
    refine RC.region rfl ?_
    refine RL.ev (.field0 fo26_1 rfl) rfl rfl ?_
    refine RL.ev (.load1 sh24 rfl (hb_6.cell rfl)) rfl rfl ?_
    refine RL.ev (.move rfl) rfl rfl ?_
    refine RL.buildSlice1 sl24 _ ze3 rfl rfl rfl rfl rfl rfl rfl (fun b_26 w_26 e_26 z_26 hb_26 s_26 => ?_)
    have ge_26 := S.le e_26
    have n_4__26 := hb_4.ne e_26
    have n_6__26 := hb_6.ne e_26
    have n_10__26 := hb_10.ne e_26
    have d_o_b_26 := o.neNew e_26
    have S := S.trans s_26
    have hb_4 := hb_4.sub s_26
    have hb_6 := hb_6.sub s_26
    have hb_10 := hb_10.sub s_26
    have szB := Nat.le_trans szB s_26.size
    have o := o.sub s_26
    have sz_27 := S.size
    have ltb_4_27 := hb_4.lt
    have ltb_6_27 := hb_6.lt
    have ltb_10_27 := hb_10.lt
    have ltb_26_27 := hb_26.lt
    refine RL.append2 (base := E) (rows := (freeB size i).map fun x => [i6 x]) (news := [_]) sl24 ze3 rfl rfl rfl rfl (.inl o) (Has.slOne hb_26) rfl (by intro r hr; rw [List.mem_singleton] at hr; subst hr; rfl) rfl (by (try simp only [List.length_map, List.length_nil, List.length_append, List.length_cons]); omega) (by (try simp only [List.length_map, List.length_nil, List.length_append, List.length_cons]); omega) (by omega) rfl rfl (fun v_27 w_27 hc_27 ho_27 ag_27 ob_27 => ?_)
    have o27 := ho_27 (.inl (by simp))
    rw [show _ ++ [_] = ((freeB size i ++ [(size : Int) - 1 - (i : Int)]).map fun x => [i6 x]) from by rw [List.map_append]; rfl] at o27
    have d_o27_b_4 := obNe ob_27 d4 hb_4.lt
    have d_o27_b_6 := obNe ob_27 d6 hb_6.lt
    have d_o27_b_10 := obNe ob_27 d10 hb_10.lt
    have S := S.agrN ag_27 (fun k e => Nat.le_trans (by omega) e.2)
    have hb_4 := hb_4.step ag_27 (fun e => d4 _ e.1 rfl)
    have hb_6 := hb_6.step ag_27 (fun e => d6 _ e.1 rfl)
    have hb_10 := hb_10.step ag_27 (fun e => d10 _ e.1 rfl)
    have szB := Nat.le_trans szB ag_27.size
    obtain ⟨a_27, c_27, rfl, k_27⟩ := o27.form
    refine RL.ev (.field0 fo26_1 rfl) rfl rfl ?_
    refine RL.store sh24 rfl rfl rfl hb_6 (by exact Nat.le_of_ble_eq_true rfl) (by rfl) rfl (fun w6 z6 hb_6 a6 => ?_)
    have S := S.upd a6 ge_6
    have hb_4 := hb_4.upd a6 n_4__6
    have hb_10 := hb_10.upd a6 n_10__6
    have szB := Nat.le_trans szB a6.size
    have o27 := o27.updD a6 d_o27_b_6
    have hb_6 : Has w6 b_6 ([.slice (some ⟨b_10, 0, none⟩) size size, .slice a_27 ((freeB size i ++ [(size : Int) - 1 - (i : Int)]).map fun x => [i6 x]).length c_27]) _ := hb_6
    refine RL.nil (RC.back ?_)
    refine RC.region rfl ?_
    refine RL.ev (.move rfl) rfl rfl ?_
    refine RL.ev (.as (.bin rfl rfl rfl) (wi64 (y := (size : Int) - 1 - ((i + 1 : Nat) : Int)) (by omega) (by omega))) rfl rfl ?_
    refine RL.ev (.assign rfl) rfl rfl ?_
    exact RL.nil (fun a ka => ⟨(i + 1, a_27, _, c_27), ⟨by omega, by rw [freeB_succ]; exact o27, hb_4, hb_6, hb_10, szB, S⟩, by omega, ka.keep (keep_of (by repeat (first | exact trivial | refine And.intro rfl ?_)))⟩)
  ·
    obtain rfl : i = size - l.length := (by omega)
    have d4 : ∀ k, ob (.slice a_u ((freeB size (size - l.length)).map fun x => [i6 x]).length c_u) = some k → k ≠ b_4 := fun k hk e => absurd (o.ge k hk).1 (by omega)
    have d6 : ∀ k, ob (.slice a_u ((freeB size (size - l.length)).map fun x => [i6 x]).length c_u) = some k → k ≠ b_6 := fun k hk e => absurd (o.ge k hk).1 (by omega)
    have d10 : ∀ k, ob (.slice a_u ((freeB size (size - l.length)).map fun x => [i6 x]).length c_u) = some k → k ≠ b_10 := fun k hk e => absurd (o.ge k hk).1 (by omega)
    refine RC.exit rfl (RC.back ?_)
    refine RC.seq ?_
    refine RC.region rfl ?_
    refine RL.ev (.loadR ([.slice (some ⟨b_10, 0, none⟩) size size, .slice a_u ((freeB size (size - l.length)).map fun x => [i6 x]).length c_u]) sh26 rfl hb_6.row rfl) rfl rfl ?_
    refine RL.ev (.move rfl) rfl rfl ?_
    refine RL.store sh26 rfl rfl rfl hb_4 (by exact Nat.le_of_ble_eq_true rfl) (by rfl) rfl (fun w7 z7 hb_4 a7 => ?_)
    have S := S.upd a7 ge_4
    have hb_6 := hb_6.upd a7 n_4__6.symm
    have hb_10 := hb_10.upd a7 n_4__10.symm
    have szB := Nat.le_trans szB a7.size
    have o := o.updD a7 d4
    have hb_4 : Has w7 b_4 ([.slice (some ⟨b_10, 0, none⟩) size size, .slice a_u ((freeB size (size - l.length)).map fun x => [i6 x]).length c_u]) _ := hb_4.now (by kernel_rfl)
    refine RL.ev (.assign rfl) rfl rfl ?_
    refine RL.nil (RC.back ?_)
    refine RC.done (rs := [.cell 4 26, .tmp 5]) (vs := [_, _]) rfl rfl ⟨⟨_, rfl, .inr ⟨[.slice (some ⟨b_10, 0, none⟩) size size, .slice a_u ((freeB size (size - l.length)).map fun x => [i6 x]).length c_u], sh26, hb_4.row, rfl⟩⟩, rfl, trivial⟩ ?_
    -- end 1
    have kc := o.form
    obtain ⟨_, c', e, hk⟩ := kc
    cases e
    rw [List.length_map] at hk
    refine ⟨some ⟨b_10, 0, none⟩, a_u, size, c_u, ?_, by omega, hk, fun N hN u hu => ⟨?_, (o.imm (N := N) (fun k hk => by have := hN k hk; omega)) u hu, hB.nok hok, ?_⟩, S⟩
    · show tup [Value.agg _, _] = _
      simp only [arV, hBl, List.length_map]
      rfl
    · exact Has.sl0 (hb_10.step hu (fun e => by have := hN _ e; omega)) (fun r hr => by obtain ⟨z, _, rfl⟩ := List.mem_map.1 hr; rfl)
    · intro x hx
      have := freeB_mem.1 hx
      unfold I64
      omega
end Go.Proofs.YtbjmllnddanniaaGreat
set_option linter.unusedVariables false
set_option linter.unusedSimpArgs false
namespace Go.Proofs.YtbjmllnddanniaaGreat
open Go Go.XL
theorem sizeA_isT {A : Ar} {r : Int} {l : List It} (h : IsT A r l) : sizeA A r = l.length := by
  unfold sizeA
  cases hg : getA A r with
  | none => rw [h.size.1 hg]; rfl
  | some y => exact h.size.2 y hg
def downF {σ : Type} (A : Ar) (step : σ → Node → Int → σ × Int) : Nat → Int → σ → σ
  | 0, _, s => s
  | k + 1, r, s => match getA A r with
    | none => s
    | some x => if (step s x (sizeA A x.k0)).2 = 0 then downF A step k x.k0 (step s x (sizeA A x.k0)).1 else if (step s x (sizeA A x.k0)).2 = 1 then downF A step k x.k1 (step s x (sizeA A x.k0)).1 else (step s x (sizeA A x.k0)).1
section
variable {σ : Type} {A : Ar} {step : σ → Node → Int → σ × Int} {k : Nat} {r : Int} {s : σ} {x : Node}
theorem downF_none (h : getA A r = none) : downF A step k r s = s := by
  cases k with
  | zero => rfl
  | succ k => rw [downF, h]
theorem downF_l (h : getA A r = some x) (hq : (step s x (sizeA A x.k0)).2 = 0) : downF A step (k + 1) r s = downF A step k x.k0 (step s x (sizeA A x.k0)).1 := by rw [downF, h]; exact if_pos hq
theorem downF_r (h : getA A r = some x) (hq : (step s x (sizeA A x.k0)).2 = 1) : downF A step (k + 1) r s = downF A step k x.k1 (step s x (sizeA A x.k0)).1 := by
  rw [downF, h]; simp only []; rw [if_neg (by omega), if_pos hq]
theorem downF_stop (h : getA A r = some x) (hq : ¬ (step s x (sizeA A x.k0)).2 = 0 ∧ ¬ (step s x (sizeA A x.k0)).2 = 1) : downF A step (k + 1) r s = (step s x (sizeA A x.k0)).1 := by
  rw [downF, h]; simp only []; rw [if_neg hq.1, if_neg hq.2]
end
def stSize (s : Int) (n : Node) (left : Int) : Int × Int := (n.s, -1)
structure AtS where
  k : Int
  x : It
  is : Bool
def stAt (s : AtS) (n : Node) (left : Int) : AtS × Int := if s.k < left then (s, 0) else if s.k > left then ({ s with k := IntKind.i64.wrap (s.k - (left + 1)) }, 1) else (⟨s.k, ⟨n.n, n.v⟩, true⟩, -1)
def stCeil (key : Int) (s : It × Bool) (n : Node) (left : Int) : (It × Bool) × Int := if n.n < key then (s, 1) else ((⟨n.n, n.v⟩, true), 0)
theorem down_size {A : Ar} {r : Int} {l : List It} (h : IsT A r l) {k : Nat} (hk : l.length < k) : downF A stSize k r 0 = l.length := by
  cases h with
  | nil => rw [downF_none (getA_0 A)]; rfl
  | node h1 h2 h3 h4 h5 =>
    cases k with
    | zero => omega
    | succ k =>
      rw [downF_stop h1 ⟨by simp [stSize], by simp [stSize]⟩]
      simp [stSize, tNode]
      try omega
def atL (l : List It) (s : AtS) : It × Bool := if 0 ≤ s.k ∧ s.k < l.length then (l.getD s.k.toNat it0, true) else (s.x, s.is)
theorem down_at {A : Ar} {r : Int} {l : List It} (h : IsT A r l) : ∀ (k : Nat) (s : AtS), l.length < k → l.length ≤ 1000 → I64 s.k → ((downF A stAt k r s).x, (downF A stAt k r s).is) = atL l s := by
  induction h with
  | nil => intro k s _ _ _; rw [downF_none (getA_0 A), atL, if_neg (by simp)]
  | @node r g a b it L R h1 h2 h3 h4 h5 ih1 ih2 =>
    intro k s hk hl hs
    simp only [List.length_append, List.length_cons] at hk hl
    unfold I64 at hs
    cases k with
    | zero => omega
    | succ k =>
      have hsz : sizeA A (tNode g it.k it.v ((L.length : Int) + R.length + 1) a b).k0 = L.length := sizeA_isT h2
      by_cases q1 : s.k < L.length
      · have e : stAt s (tNode g it.k it.v ((L.length : Int) + R.length + 1) a b) L.length = (s, 0) := by rw [stAt, if_pos q1]
        rw [downF_l h1 (by rw [hsz, e]), hsz, e]
        show ((downF A stAt k a s).x, (downF A stAt k a s).is) = _
        rw [ih1 k s (by omega) (by omega) hs]
        unfold atL
        by_cases q2 : 0 ≤ s.k
        · rw [if_pos ⟨q2, q1⟩, if_pos ⟨q2, by simp; omega⟩]
          congr 1
          rw [List.getD_eq_getElem?_getD, List.getD_eq_getElem?_getD, List.getElem?_append_left (by omega)]
        · rw [if_neg (fun e => q2 e.1), if_neg (fun e => q2 e.1)]
      · by_cases q2 : s.k > L.length
        · have ew : IntKind.i64.wrap (s.k - ((L.length : Int) + 1)) = s.k - (L.length + 1) := wrap_i64 (by omega)
          have e : stAt s (tNode g it.k it.v ((L.length : Int) + R.length + 1) a b) L.length = ({ s with k := s.k - (L.length + 1) }, 1) := by rw [stAt, if_neg q1, if_pos q2, ew]
          rw [downF_r h1 (by rw [hsz, e]), hsz, e]
          show ((downF A stAt k b _).x, (downF A stAt k b _).is) = _
          rw [ih2 k _ (by omega) (by omega) (by show I64 (s.k - (L.length + 1)); unfold I64; omega)]
          unfold atL
          simp only []
          by_cases q3 : s.k - (L.length + 1) < R.length
          · rw [if_pos ⟨by omega, q3⟩, if_pos ⟨by omega, by simp; omega⟩]
            congr 1
            rw [List.getD_eq_getElem?_getD, List.getD_eq_getElem?_getD, List.getElem?_append_right (by omega)]
            obtain ⟨m, hm⟩ : ∃ m, s.k.toNat - L.length = m + 1 := ⟨s.k.toNat - L.length - 1, by omega⟩
            rw [hm, List.getElem?_cons_succ, show (s.k - ((L.length : Int) + 1)).toNat = m by omega]
          · rw [if_neg (fun e => q3 e.2), if_neg (fun e => q3 (by have := e.2; simp at this; omega))]
        · have e : stAt s (tNode g it.k it.v ((L.length : Int) + R.length + 1) a b) L.length = (⟨s.k, it, true⟩, -1) := by rw [stAt, if_neg q1, if_neg q2]; rfl
          rw [downF_stop h1 (by rw [hsz, e]; exact ⟨(show ¬ (-1 : Int) = 0 by decide), (show ¬ (-1 : Int) = 1 by decide)⟩), hsz, e]
          unfold atL
          rw [if_pos ⟨by omega, by simp; omega⟩]
          have hm : s.k.toNat = L.length := by omega
          rw [hm, List.getD_eq_getElem?_getD, List.getElem?_append_right (Nat.le_refl _), Nat.sub_self]
          rfl
def ceilL (key : Int) (l : List It) (s : It × Bool) : It × Bool := match (l.filter fun x => decide (key ≤ x.k)).head? with
  | some y => (y, true)
  | none => s
theorem ceil_ge {key : Int} {L R : List It} {it : It} (h : Srt (L ++ it :: R)) (s : It × Bool) (q : ¬ it.k < key) : ceilL key (L ++ it :: R) s = ceilL key L (it, true) := by
  unfold ceilL
  rw [List.filter_append, List.filter_cons, if_pos (by simp; omega)]
  cases hL : L.filter (fun x => decide (key ≤ x.k)) with
  | nil => simp
  | cons y ys => simp
theorem ceil_lt {key : Int} {L R : List It} {it : It} (h : Srt (L ++ it :: R)) (s : It × Bool) (q : it.k < key) : ceilL key (L ++ it :: R) s = ceilL key R s := by
  unfold ceilL
  have hL : L.filter (fun x => decide (key ≤ x.k)) = [] := by
    rw [List.filter_eq_nil_iff]; intro y hy; have := h.split.2.2.1 y hy; simp; omega
  rw [List.filter_append, List.filter_cons, if_neg (by simp; omega), hL, List.nil_append]
theorem down_ceil {A : Ar} {r : Int} {l : List It} (key : Int) (h : IsT A r l) : ∀ (k : Nat) (s : It × Bool), l.length < k → downF A (stCeil key) k r s = ceilL key l s := by
  induction h with
  | nil => intro k s _; rw [downF_none (getA_0 A)]; rfl
  | @node r g a b it L R h1 h2 h3 h4 h5 ih1 ih2 =>
    intro k s hk
    simp only [List.length_append, List.length_cons] at hk
    cases k with
    | zero => omega
    | succ k =>
      have hsz : sizeA A (tNode g it.k it.v ((L.length : Int) + R.length + 1) a b).k0 = L.length := sizeA_isT h2
      by_cases q : it.k < key
      · have e : stCeil key s (tNode g it.k it.v ((L.length : Int) + R.length + 1) a b) L.length = (s, 1) := if_pos q
        rw [downF_r h1 (by rw [hsz, e]), hsz, e, ceil_lt h5 s q]
        exact ih2 k s (by omega)
      · have e : stCeil key s (tNode g it.k it.v ((L.length : Int) + R.length + 1) a b) L.length = ((it, true), 0) := if_neg q
        rw [downF_l h1 (by rw [hsz, e]), hsz, e, ceil_ge h5 s q]
        exact ih1 k _ (by omega)
end Go.Proofs.YtbjmllnddanniaaGreat
set_option linter.unusedVariables false
set_option linter.unusedSimpArgs false
namespace Go.Proofs.YtbjmllnddanniaaGreat
open Go Go.XL
theorem Ft.has {w : World} {b : Nat} {cs : List Value} {e : TypeId} (h : Has w b cs e) : Ft (· = b) (fun u => Has u b cs e) w := ⟨fun k e => e ▸ h.lt, fun u a => h.step a (fun hn => hn rfl)⟩
/-- a function that is told where to go on, and keeps its word in blocks C -/
def Tells {σ : Type} (f : FuncId) (cs : List Value) (C : Nat → Prop) (I : σ → World → Prop) (step : σ → Node → Int → σ × Int) : Prop :=
  ∀ (s : σ) (x : Node) (left : Int) (w : World), x.ok → 0 ≤ left → left ≤ 1000 → Ft C (I s) w → FC Tryz.prog f ([x.val, .int .i64 left] ++ cs) w (fun v w' => v = .int .i64 (step s x left).2 ∧ Ft C (I (step s x left).1) w' ∧ Agr C w w')
theorem sizeA_rng {A : Ar} {r : Int} {l : List It} (h : IsT A r l) (hl : l.length ≤ 1000) : 0 ≤ sizeA A r ∧ sizeA A r ≤ 1000 := by rw [sizeA_isT h]; omega
theorem getV_s (A : Ar) (r : Int) : ∃ (y : Node) (e : Int), getV A r = .tuple #[y.val, .int .i64 e] ∧ y.s = sizeA A r ∧ (∀ x, getA A r = some x → y = x) := by
  unfold sizeA
  cases h : getA A r with
  | none => exact ⟨bareN 0, 4, getV_no h, rfl, fun x h => (by cases h)⟩
  | some x => exact ⟨x, 0, getV_yes h, rfl, fun y h => (by cases h; rfl)⟩
set_option maxHeartbeats 2000000 in
theorem c_down {σ : Type} (f : FuncId) (hf : calleeOK Tryz.prog f = true) (cs : List Value) (C : Nat → Prop) (I : σ → World → Prop) (step : σ → Node → Int → σ × Int) (hT : Tells f cs C I step)
    (A : Ar) (na fa : Option Addr) (nc fc : Nat) (r : Int) (hr : U64 r) (s0 : σ) (M : Nat → Prop) (w : World) (hA : Ft M (fun u => ArR u na fa A) w) (hMC : ∀ k, M k → ¬ C k) (hS : Ft C (I s0) w) :
    FC Tryz.prog 68 [arV na fa nc fc A, .int .u64 r, .func (.func f) #[] cs.toArray] w (fun v w' => Agr C w w' ∧ (¬ isMap A r ∧ v = .int .i64 1 ∧ Ft C (I s0) w' ∨ isMap A r ∧ v = .int .i64 0 ∧ Ft C (I (downF A step 201 r s0)) w')) := by
  have hCw : ∀ k, C k → k < w.heap.size := hS.lt
  have hnok := hA.now.nok
  refine FC.intro Tryz.func68 rfl Tryz.ntmps68 rfl ?_
  have G : Agr C w w := Agr.refl _ _
  refine RC.seq ?_
  refine RC.region rfl ?_
  refine RL.box rfl rfl rfl (fun b_3 w_3 e_3 z_3 hb_3 s_3 => ?_)
  have d_hA_b_3 := hA.neNew e_3
  have d_hS_b_3 := hS.neNew e_3
  have geG_3 := agLe G e_3
  have G := G.trans s_3.agr
  have hA := hA.sub s_3
  have hS := hS.sub s_3
  have hb_3 : Has w_3 b_3 ([.slice na A.nodes.length nc, .slice fa A.free.length fc]) _ := hb_3
  refine RL.ev (.assign rfl) rfl rfl ?_
  refine RL.nil (RC.back ?_)
  refine RC.seq ?_
  refine RC.seq ?_
  refine RC.region rfl ?_
  refine RL.ev (.loadR ([.slice na A.nodes.length nc, .slice fa A.free.length fc]) sh26 rfl hb_3.row rfl) rfl rfl ?_
  refine RL.ev (.move rfl) rfl rfl ?_
  refine RL.call rfl ok54 (c_tRight A na fa nc fc r hr w_3 hA.now) rfl rfl ?_
  rintro _ w1 ⟨rfl, s2⟩
  have G := G.trans s2.agr
  have hA := hA.sub s2
  have hS := hS.sub s2
  have hb_3 := hb_3.sub s2
  refine RL.ev (.not rfl) rfl rfl ?_
  refine RL.nil (RC.back ?_)
  refine RC.cond rfl (fun h3 => ?_) (fun h3 => ?_)
  ·
    have hno : ¬ isMap A r := (fun h => by have h2 := h3; rw [isMapB_yes h] at h2; cases h2)
    refine RC.seq ?_
    refine RC.region rfl ?_
    refine RL.ev (.assign rfl) rfl rfl ?_
    refine RL.nil (RC.back ?_)
    refine RC.done (rs := [.tmp 6]) (vs := [_]) rfl rfl ⟨rfl, trivial⟩ ?_
    -- end 1
    exact ⟨G, .inl ⟨hno, rfl, hS⟩⟩
  ·
    have hmb : isMapB A r = true := (by simpa using h3)
    have hmap : isMap A r := (isMapB_iff A r).1 (by simpa using h3)
    obtain ⟨_, l0, hl0, hll0⟩ := hmap
    have geb := geG_3
    have hC3 : ¬ C b_3 := fun e => by have := hCw _ e; omega
    refine RC.skip (RC.back ?_)
    refine RC.seq ?_
    refine RC.block ?_
    refine RC.loop (α := Nat × Int × σ) (fun x => [(1, .int .u64 x.2.1), (2, .func (.func f) #[] cs.toArray), (3, .pointer (some ⟨b_3, 0, none⟩))]) (fun x w4 => (U64 x.2.1 ∧ (∃ l, IsT A x.2.1 l ∧ l.length < x.1 ∧ l.length ≤ 200) ∧ downF A step 201 r s0 = downF A step x.1 x.2.1 x.2.2) ∧ Has w4 b_3 [.slice na A.nodes.length nc, .slice fa A.free.length fc] 26 ∧ Ft M (fun u => ArR u na fa A) w4 ∧ Ft C (I x.2.2) w4 ∧ Agr C w w4) (fun x => x.1) (201, r, s0) (keep_of (by repeat (first | exact trivial | refine And.intro rfl ?_))) (⟨⟨hr, ⟨l0, hl0, Nat.lt_succ_of_le hll0, hll0⟩, rfl⟩, hb_3, hA, hS, G⟩) (fun x w4 hJ => ?_)
    obtain ⟨k, q, s⟩ := x; obtain ⟨⟨hq, ⟨l, hl, hlk, hl2⟩, hd⟩, hb_3, hA, hS, G⟩ := hJ; simp only [] at hq hl hlk hd hS
    refine RC.seq ?_
    refine RC.seq ?_
    refine RC.region rfl ?_
    refine RL.ev (.move rfl) rfl rfl ?_
    refine RL.ev (.bin rfl rfl rfl) rfl rfl ?_
    refine RL.nil (RC.back ?_)
    refine RC.cond_dec rfl (fun h5 => ?_) (fun h5 => ?_)
    ·
      obtain ⟨g, a, b, it, L, R, el, e1, e2, e3, _, _⟩ := hl.ne h5
      have hll : l.length = L.length + (R.length + 1) := (by rw [el]; simp)
      obtain ⟨x, hgx, hxa, hxb⟩ : ∃ x, getA A q = some x ∧ IsT A x.k0 L ∧ IsT A x.k1 R := ⟨_, e1, e2, e3⟩
      clear e1 e2 e3 el
      have hxo := hnok x (getA_nok hgx)
      have hsr := sizeA_rng hxa (by omega)
      obtain ⟨y2, f2, hgv2, hys, hyg⟩ := getV_s A x.k0
      obtain ⟨k, rfl⟩ : ∃ m, k = m + 1 := ⟨k - 1, by omega⟩
      refine RC.skip (RC.back ?_)
      refine RC.block ?_
      refine RC.seq ?_
      refine RC.region rfl ?_
      refine RL.ev (.loadR ([.slice na A.nodes.length nc, .slice fa A.free.length fc]) sh26 rfl hb_3.row rfl) rfl rfl ?_
      refine RL.ev (.move rfl) rfl rfl ?_
      refine RL.call rfl ok125 (c_aGet A na fa nc fc q hq w4 hA.now) rfl rfl ?_
      rintro _ w6 ⟨rfl, s7⟩
      have G := G.trans s7.agr
      have hb_3 := hb_3.sub s7
      have hA := hA.sub s7
      have hS := hS.sub s7
      refine RL.ev (.as (v' := .tuple #[x.val, .int .i64 0]) (.move rfl) (by rw [getV_yes hgx])) rfl rfl ?_
      refine RL.ev (.extract rfl rfl) rfl rfl ?_
      refine RL.ev (.extract rfl rfl) rfl rfl ?_
      refine RL.alloc ze140 rfl rfl (fun b_7 w_7 e_7 z_7 hb_7 s_7 => ?_)
      have n_3__7 := hb_3.ne e_7
      have d_hA_b_7 := hA.neNew e_7
      have d_hS_b_7 := hS.neNew e_7
      have geG_7 := agLe G e_7
      have G := G.trans s_7.agr
      have hb_3 := hb_3.sub s_7
      have hA := hA.sub s_7
      have hS := hS.sub s_7
      refine RL.store sh140 rfl rfl rfl hb_7 (by exact Nat.le_of_ble_eq_true rfl) (by rfl) rfl (fun w8 z8 hb_7 a8 => ?_)
      have G := agNew G a8 geG_7
      have hb_3 := hb_3.upd a8 n_3__7
      have hA := hA.updD a8 d_hA_b_7
      have hS := hS.updD a8 d_hS_b_7
      have hb_7 : Has w8 b_7 (x.cells) _ := hb_7.now (by kernel_rfl)
      refine RL.ev (.assign rfl) rfl rfl ?_
      refine RL.nil (RC.back ?_)
      refine RC.seq ?_
      refine RC.region rfl ?_
      refine RL.ev (.loadR ([.slice na A.nodes.length nc, .slice fa A.free.length fc]) sh26 rfl hb_3.row rfl) rfl rfl ?_
      refine RL.ev (.field0 fo140_5 rfl) rfl rfl ?_
      refine RL.ev (.indexArr ar138 rfl rfl (by omega)) rfl rfl ?_
      refine RL.ev (.load1 sh31 rfl (hb_7.cell rfl)) rfl rfl ?_
      refine RL.call rfl ok125 (c_aGet A na fa nc fc x.k0 (hxo.kids _ (by simp [Node.kids])) w8 hA.now) rfl rfl ?_
      rintro _ w9 ⟨rfl, s10⟩
      have G := G.trans s10.agr
      have hb_3 := hb_3.sub s10
      have hA := hA.sub s10
      have hS := hS.sub s10
      have hb_7 := hb_7.sub s10
      refine RL.ev (.as (v' := .tuple #[y2.val, .int .i64 f2]) (.move rfl) (by rw [hgv2])) rfl rfl ?_
      refine RL.ev (.extract rfl rfl) rfl rfl ?_
      refine RL.ev (.extract rfl rfl) rfl rfl ?_
      refine RL.alloc ze140 rfl rfl (fun b_9 w_9 e_9 z_9 hb_9 s_9 => ?_)
      have n_3__9 := hb_3.ne e_9
      have n_7__9 := hb_7.ne e_9
      have d_hA_b_9 := hA.neNew e_9
      have d_hS_b_9 := hS.neNew e_9
      have geG_9 := agLe G e_9
      have G := G.trans s_9.agr
      have hb_3 := hb_3.sub s_9
      have hA := hA.sub s_9
      have hS := hS.sub s_9
      have hb_7 := hb_7.sub s_9
      refine RL.store sh140 rfl rfl rfl hb_9 (by exact Nat.le_of_ble_eq_true rfl) (by rfl) rfl (fun w11 z11 hb_9 a11 => ?_)
      have G := agNew G a11 geG_9
      have hb_3 := hb_3.upd a11 n_3__9
      have hA := hA.updD a11 d_hA_b_9
      have hS := hS.updD a11 d_hS_b_9
      have hb_7 := hb_7.upd a11 n_7__9
      have hb_9 : Has w11 b_9 (y2.cells) _ := hb_9.now (by kernel_rfl)
      refine RL.ev (.assign rfl) rfl rfl ?_
      refine RL.nil (RC.back ?_)
      refine RC.seq ?_
      refine RC.region rfl ?_
      refine RL.ev (.move rfl) rfl rfl ?_
      refine RL.ev (.loadR (x.cells) sh140 rfl hb_7.row rfl) rfl rfl ?_
      refine RL.ev (.field0 fo140_4 rfl) rfl rfl ?_
      refine RL.ev (.as (v' := .int .i64 (sizeA A x.k0)) (.load1 sh2 rfl (hb_9.cell rfl)) (by rw [hys])) rfl rfl ?_
      refine RL.callv rfl rfl (us := []) (cs := cs) hf (hT s x (sizeA A x.k0) w11 hxo hsr.1 hsr.2 hS) rfl rfl ?_
      rintro _ w12 ⟨rfl, hS2, ag⟩
      have hG7 := geG_7
      have hG9 := geG_9
      have G := G.trans ag
      have hA := hA.step ag hMC
      have hb_3 := hb_3.step ag hC3
      have hb_7 := hb_7.step ag (fun e => by have := hCw _ e; omega)
      have hb_9 := hb_9.step ag (fun e => by have := hCw _ e; omega)
      have hS := hS2
      refine RL.ev (.assign rfl) rfl rfl ?_
      refine RL.nil (RC.back ?_)
      refine RC.seq ?_
      refine RC.seq ?_
      refine RC.region rfl ?_
      refine RL.ev (.move rfl) rfl rfl ?_
      refine RL.ev (.bin rfl rfl rfl) rfl rfl ?_
      refine RL.ev (.move rfl) rfl rfl ?_
      refine RL.split 39 rfl (fun h14 => ?_) (fun h14 => ?_)
      ·
        have hn0 := h14
        refine RL.ev (.move rfl) rfl rfl ?_
        refine RL.ev (.bin rfl rfl rfl) rfl rfl ?_
        refine RL.ev (.pick_t rfl rfl) rfl rfl ?_
        refine RL.nil (RC.back ?_)
        refine RC.cond_dec rfl (fun h15 => ?_) (fun h15 => ?_)
        ·
          have hn1 := h15
          refine RC.exit rfl (RC.back ?_)
          refine RC.seq ?_
          refine RC.region rfl ?_
          refine RL.ev (.assign rfl) rfl rfl ?_
          refine RL.nil (RC.back ?_)
          refine RC.done (rs := [.tmp 6]) (vs := [_]) rfl rfl ⟨rfl, trivial⟩ ?_
          -- end 2
          rw [hd, downF_stop hgx ⟨hn0, hn1⟩]
          exact ⟨G, .inr ⟨(isMapB_iff A r).1 hmb, rfl, hS⟩⟩
        ·
          have hs1 : (step s x (sizeA A x.k0)).2 = 1 := Decidable.not_not.1 h15
          refine RC.skip (RC.back ?_)
          refine RC.region rfl ?_
          refine RL.ev (.as (v' := .int .i64 1) (.move rfl) (by rw [hs1])) rfl rfl ?_
          refine RL.ev (.field0 fo140_5 rfl) rfl rfl ?_
          refine RL.ev (.indexArr ar138 rfl rfl (by omega)) rfl rfl ?_
          refine RL.ev (.load1 sh31 rfl (hb_7.cell rfl)) rfl rfl ?_
          refine RL.ev (.assign rfl) rfl rfl ?_
          exact RL.nil (fun a ka => ⟨(k, x.k1, (step s x (sizeA A x.k0)).1), ⟨⟨hxo.kids _ (by simp [Node.kids]), ⟨R, hxb, by omega, by omega⟩, by rw [hd, downF_r hgx hs1]⟩, hb_3, hA, hS, G⟩, by omega, ka.keep (keep_of (by repeat (first | exact trivial | refine And.intro rfl ?_)))⟩)
      ·
        have hs0 : (step s x (sizeA A x.k0)).2 = 0 := Decidable.not_not.1 h14
        refine RL.off rfl rfl ?_
        refine RL.off rfl rfl ?_
        refine RL.ev (.pick_f rfl rfl) rfl rfl ?_
        refine RL.nil (RC.back ?_)
        refine RC.cond_f rfl ?_
        refine RC.skip (RC.back ?_)
        refine RC.region rfl ?_
        refine RL.ev (.as (v' := .int .i64 0) (.move rfl) (by rw [hs0])) rfl rfl ?_
        refine RL.ev (.field0 fo140_5 rfl) rfl rfl ?_
        refine RL.ev (.indexArr ar138 rfl rfl (by omega)) rfl rfl ?_
        refine RL.ev (.load1 sh31 rfl (hb_7.cell rfl)) rfl rfl ?_
        refine RL.ev (.assign rfl) rfl rfl ?_
        exact RL.nil (fun a ka => ⟨(k, x.k0, (step s x (sizeA A x.k0)).1), ⟨⟨hxo.kids _ (by simp [Node.kids]), ⟨L, hxa, by omega, by omega⟩, by rw [hd, downF_l hgx hs0]⟩, hb_3, hA, hS, G⟩, by omega, ka.keep (keep_of (by repeat (first | exact trivial | refine And.intro rfl ?_)))⟩)
    ·
      obtain rfl : q = 0 := Decidable.not_not.1 h5
      rw [downF_none (getA_0 A)] at hd
      refine RC.exit rfl (RC.back ?_)
      refine RC.seq ?_
      refine RC.region rfl ?_
      refine RL.ev (.assign rfl) rfl rfl ?_
      refine RL.nil (RC.back ?_)
      refine RC.done (rs := [.tmp 6]) (vs := [_]) rfl rfl ⟨rfl, trivial⟩ ?_
      -- end 3
      rw [hd]
      exact ⟨G, .inr ⟨(isMapB_iff A r).1 hmb, rfl, hS⟩⟩
theorem isMap_len {A : Ar} {r : Int} {l : List It} (h : isMap A r) (hl : IsT A r l) : l.length ≤ 200 := by
  obtain ⟨_, m, h1, h2⟩ := h
  rw [hl.unique h1]; exact h2
theorem down_form {σ : Type} {C : Nat → Prop} {I : σ → World → Prop} {step : σ → Node → Int → σ × Int} {A : Ar} {r : Int} {s0 : σ} {v : Value} {w' : World} (h : ¬ isMap A r ∧ v = .int .i64 1 ∧ Ft C (I s0) w' ∨ isMap A r ∧ v = .int .i64 0 ∧ Ft C (I (downF A step 201 r s0)) w') :
    ∃ s e, v = .int .i64 e ∧ Ft C (I s) w' ∧ (¬ isMap A r ∧ e = 1 ∧ s = s0 ∨ isMap A r ∧ e = 0 ∧ s = downF A step 201 r s0) := by
  rcases h with ⟨h1, h2, h3⟩ | ⟨h1, h2, h3⟩
  · exact ⟨s0, 1, h2, h3, .inl ⟨h1, rfl, rfl⟩⟩
  · exact ⟨_, 0, h2, h3, .inr ⟨h1, rfl, rfl⟩⟩
def ISize (b2 : Nat) (s : Int) (u : World) : Prop := Has u b2 [.int .i64 s] 3
theorem t_size (b2 : Nat) : Tells 104 [.pointer (some ⟨b2, 0, none⟩)] (· = b2) (ISize b2) stSize := by
  intro s x left w hx h0 h1 hS
  have hb2 : Has w b2 [.int .i64 s] 3 := hS.now
  refine FC.intro Tryz.func104 rfl Tryz.ntmps104 rfl ?_
  have G : Agr (· = b2) w w := Agr.refl _ _
  refine RC.seq ?_
  refine RC.region rfl ?_
  refine RL.box rfl rfl rfl (fun b_3 w_3 e_3 z_3 hb_3 s_3 => ?_)
  have n2__3 := hb2.ne e_3
  have geG_3 := agLe G e_3
  have G := G.trans s_3.agr
  have hb2 := hb2.sub s_3
  have hb_3 : Has w_3 b_3 (x.cells) _ := hb_3
  refine RL.ev (.assign rfl) rfl rfl ?_
  refine RL.nil (RC.back ?_)
  refine RC.seq ?_
  refine RC.region rfl ?_
  refine RL.ev (.field0 fo140_4 rfl) rfl rfl ?_
  refine RL.ev (.load1 sh2 rfl (hb_3.cell rfl)) rfl rfl ?_
  refine RL.store sh3 rfl rfl rfl hb2 (by exact Nat.le_of_ble_eq_true rfl) (by rfl) rfl (fun w1 z1 hb2 a1 => ?_)
  have G := G.trans a1
  have hb_3 := hb_3.upd a1 n2__3.symm
  refine RL.nil (RC.back ?_)
  refine RC.seq ?_
  refine RC.region rfl ?_
  refine RL.ev (.assign rfl) rfl rfl ?_
  refine RL.nil (RC.back ?_)
  refine RC.done (rs := [.tmp 5]) (vs := [_]) rfl rfl ⟨rfl, trivial⟩ ?_
  -- end 1
  exact ⟨rfl, Ft.has hb2, G⟩
theorem c_oSize (A : Ar) (na fa : Option Addr) (nc fc : Nat) (r : Int) (hr : U64 r) (w : World) (hA : ArR w na fa A) :
    FC Tryz.prog 46 [arV na fa nc fc A, .int .u64 r] w (fun v w' => Sub w w' ∧ ∃ n e, v = .tuple #[.int .i64 n, .int .i64 e] ∧ (¬ isMap A r → n = 0 ∧ e = 1) ∧ ∀ l, isMap A r → IsT A r l → n = l.length ∧ e = 0) := by
  refine FC.intro Tryz.func46 rfl Tryz.ntmps46 rfl ?_
  have S := Sub.refl w
  refine RC.seq ?_
  refine RC.region rfl ?_
  refine RL.box rfl rfl rfl (fun b_2 w_2 e_2 z_2 hb_2 s_2 => ?_)
  have ge_2 := S.le e_2
  have S := S.trans s_2
  have hb_2 : Has w_2 b_2 ([.slice na A.nodes.length nc, .slice fa A.free.length fc]) _ := hb_2
  refine RL.ev (.assign rfl) rfl rfl ?_
  refine RL.ev (.assign rfl) rfl rfl ?_
  refine RL.nil (RC.back ?_)
  refine RC.seq ?_
  refine RC.region rfl ?_
  refine RL.alloc ze3 rfl rfl (fun b_6 w_6 e_6 z_6 hb_6 s_6 => ?_)
  have ge_6 := S.le e_6
  have n_2__6 := hb_2.ne e_6
  have S := S.trans s_6
  have hb_2 := hb_2.sub s_6
  refine RL.store sh3 rfl rfl rfl hb_6 (by exact Nat.le_of_ble_eq_true rfl) (by rfl) rfl (fun w1 z1 hb_6 a1 => ?_)
  have S := S.upd a1 ge_6
  have hb_2 := hb_2.upd a1 n_2__6
  refine RL.nil (RC.back ?_)
  refine RC.seq ?_
  refine RC.region rfl ?_
  refine RL.ev (.loadR ([.slice na A.nodes.length nc, .slice fa A.free.length fc]) sh26 rfl hb_2.row rfl) rfl rfl ?_
  refine RL.ev (.move rfl) rfl rfl ?_
  refine RL.ev (.func (xs := []) (ys := [_]) rfl rfl) rfl rfl ?_
  refine RL.call rfl ok68 (c_down 104 ok104 _ _ _ _ (t_size b_6) A na fa nc fc r hr (0 : Int) (· < w.heap.size) w1 ((Ft.of_sub fun u s => hA.sub s).sub S) (fun k hk e => by omega) (Ft.has hb_6)) rfl rfl ?_
  rintro _ w2 ⟨ag, hr2⟩
  obtain ⟨s, e, rfl, hS, hse⟩ := down_form hr2
  have S := S.agrN ag (fun k e => e ▸ ge_6)
  have hb_2 := hb_2.step ag (fun e => n_2__6 e)
  have hb_6 : Has w2 b_6 [.int .i64 s] 3 := hS.now
  refine RL.ev (.assign rfl) rfl rfl ?_
  refine RL.nil (RC.back ?_)
  refine RC.seq ?_
  refine RC.region rfl ?_
  refine RL.ev (.load1 sh3 rfl (hb_6.cell rfl)) rfl rfl ?_
  refine RL.ev (.move rfl) rfl rfl ?_
  refine RL.ev (.assign rfl) rfl rfl ?_
  refine RL.ev (.assign rfl) rfl rfl ?_
  refine RL.nil (RC.back ?_)
  refine RC.done (rs := [.tmp 4, .tmp 5]) (vs := [_, _]) rfl rfl ⟨rfl, rfl, trivial⟩ ?_
  -- end 1
  refine ⟨S, s, e, rfl, fun h => ?_, fun l hm hl => ?_⟩
  · rcases hse with ⟨_, h2, h3⟩ | ⟨h2, _⟩
    · exact ⟨h3, h2⟩
    · exact absurd h2 h
  · rcases hse with ⟨h2, _⟩ | ⟨_, h2, h3⟩
    · exact absurd hm h2
    · have h4 := isMap_len hm hl
      exact ⟨by rw [h3, down_size hl (by omega)], h2⟩
theorem c_found (x : It) (is : Bool) (bad : Int) (w : World) : FC Tryz.prog 70 [x.val, .bool is, .int .i64 bad] w (Val (.tuple #[x.val, .int .i64 (if bad = 0 ∧ is = false then 3 else bad)]) w) := by
  refine FC.intro Tryz.func70 rfl Tryz.ntmps70 rfl ?_
  have S := Sub.refl w
  refine RC.seq ?_
  refine RC.region rfl ?_
  refine RL.box rfl rfl rfl (fun b_3 w_3 e_3 z_3 hb_3 s_3 => ?_)
  have ge_3 := S.le e_3
  have S := S.trans s_3
  have hb_3 : Has w_3 b_3 (x.cells) _ := hb_3
  refine RL.alloc ze51 rfl rfl (fun b_6 w_6 e_6 z_6 hb_6 s_6 => ?_)
  have ge_6 := S.le e_6
  have n_3__6 := hb_3.ne e_6
  have S := S.trans s_6
  have hb_3 := hb_3.sub s_6
  refine RL.ev (.assign rfl) rfl rfl ?_
  refine RL.nil (RC.back ?_)
  refine RC.seq ?_
  refine RC.seq ?_
  refine RC.region rfl ?_
  refine RL.ev (.move rfl) rfl rfl ?_
  refine RL.ev (.bin rfl rfl rfl) rfl rfl ?_
  refine RL.ev (.move rfl) rfl rfl ?_
  refine RL.split 10 rfl (fun h1 => ?_) (fun h1 => ?_)
  ·
    have h0 := h1
    refine RL.ev (.move rfl) rfl rfl ?_
    refine RL.ev (.not rfl) rfl rfl ?_
    refine RL.ev (.pick_t rfl rfl) rfl rfl ?_
    refine RL.nil (RC.back ?_)
    refine RC.cond rfl (fun h2 => ?_) (fun h2 => ?_)
    ·
      have h1 := h2
      refine RC.region rfl ?_
      refine RL.ev (.assign rfl) rfl rfl ?_
      refine RL.nil (RC.back ?_)
      refine RC.seq ?_
      refine RC.region rfl ?_
      refine RL.ev (.loadR (x.cells) sh51 rfl hb_3.row rfl) rfl rfl ?_
      refine RL.ev (.move rfl) rfl rfl ?_
      refine RL.store sh51 rfl rfl rfl hb_6 (by exact Nat.le_of_ble_eq_true rfl) (by rfl) rfl (fun w3 z3 hb_6 a3 => ?_)
      have S := S.upd a3 ge_6
      have hb_3 := hb_3.upd a3 n_3__6
      have hb_6 : Has w3 b_6 (x.cells) _ := hb_6.now (by kernel_rfl)
      refine RL.ev (.assign rfl) rfl rfl ?_
      refine RL.nil (RC.back ?_)
      refine RC.done (rs := [.cell 6 51, .tmp 7]) (vs := [_, _]) rfl rfl ⟨⟨_, rfl, .inr ⟨x.cells, sh51, hb_6.row, rfl⟩⟩, rfl, trivial⟩ ?_
      -- end 1
      rw [if_pos ⟨h0, by simpa using h1⟩]
      exact ⟨rfl, S⟩
    ·
      have h1 := h2
      refine RC.skip (RC.back ?_)
      refine RC.seq ?_
      refine RC.region rfl ?_
      refine RL.ev (.loadR (x.cells) sh51 rfl hb_3.row rfl) rfl rfl ?_
      refine RL.ev (.move rfl) rfl rfl ?_
      refine RL.store sh51 rfl rfl rfl hb_6 (by exact Nat.le_of_ble_eq_true rfl) (by rfl) rfl (fun w4 z4 hb_6 a4 => ?_)
      have S := S.upd a4 ge_6
      have hb_3 := hb_3.upd a4 n_3__6
      have hb_6 : Has w4 b_6 (x.cells) _ := hb_6.now (by kernel_rfl)
      refine RL.ev (.assign rfl) rfl rfl ?_
      refine RL.nil (RC.back ?_)
      refine RC.done (rs := [.cell 6 51, .tmp 7]) (vs := [_, _]) rfl rfl ⟨⟨_, rfl, .inr ⟨x.cells, sh51, hb_6.row, rfl⟩⟩, rfl, trivial⟩ ?_
      -- end 2
      rw [if_neg (fun e => by rw [e.2] at h1; cases h1)]
      exact ⟨rfl, S⟩
  ·
    have h0 := h1
    refine RL.off rfl rfl ?_
    refine RL.off rfl rfl ?_
    refine RL.ev (.pick_f rfl rfl) rfl rfl ?_
    refine RL.nil (RC.back ?_)
    refine RC.cond_f rfl ?_
    refine RC.skip (RC.back ?_)
    refine RC.seq ?_
    refine RC.region rfl ?_
    refine RL.ev (.loadR (x.cells) sh51 rfl hb_3.row rfl) rfl rfl ?_
    refine RL.ev (.move rfl) rfl rfl ?_
    refine RL.store sh51 rfl rfl rfl hb_6 (by exact Nat.le_of_ble_eq_true rfl) (by rfl) rfl (fun w5 z5 hb_6 a5 => ?_)
    have S := S.upd a5 ge_6
    have hb_3 := hb_3.upd a5 n_3__6
    have hb_6 : Has w5 b_6 (x.cells) _ := hb_6.now (by kernel_rfl)
    refine RL.ev (.assign rfl) rfl rfl ?_
    refine RL.nil (RC.back ?_)
    refine RC.done (rs := [.cell 6 51, .tmp 7]) (vs := [_, _]) rfl rfl ⟨⟨_, rfl, .inr ⟨x.cells, sh51, hb_6.row, rfl⟩⟩, rfl, trivial⟩ ?_
    -- end 3
    rw [if_neg (fun e => h0 e.1)]
    exact ⟨rfl, S⟩
def IAt (b10 b8 b9 : Nat) (s : AtS) (u : World) : Prop := Has u b10 [.int .i64 s.k] 2 ∧ (Has u b8 s.x.cells 51 ∧ Has u b9 [.bool s.is] 4)
theorem t_at (b10 b8 b9 : Nat) (n1 : b10 ≠ b8) (n2 : b10 ≠ b9) (n3 : b8 ≠ b9) : Tells 69 [.pointer (some ⟨b10, 0, none⟩), .pointer (some ⟨b8, 0, none⟩), .pointer (some ⟨b9, 0, none⟩)] (fun k => k = b10 ∨ (k = b8 ∨ k = b9)) (IAt b10 b8 b9) stAt := by
  intro s x left w hx h0 h1 hS
  have hs : IAt b10 b8 b9 s w := hS.now
  obtain ⟨ha, hb, hc⟩ := hs
  refine FC.intro Tryz.func69 rfl Tryz.ntmps69 rfl ?_
  have G : Agr (fun k => k = b10 ∨ (k = b8 ∨ k = b9)) w w := Agr.refl _ _
  refine RC.seq ?_
  refine RC.region rfl ?_
  refine RL.box rfl rfl rfl (fun b_5 w_5 e_5 z_5 hb_5 s_5 => ?_)
  have n10__5 := ha.ne e_5
  have n8__5 := hb.ne e_5
  have n9__5 := hc.ne e_5
  have geG_5 := agLe G e_5
  have G := G.trans s_5.agr
  have ha := ha.sub s_5
  have hb := hb.sub s_5
  have hc := hc.sub s_5
  have hb_5 : Has w_5 b_5 (x.cells) _ := hb_5
  refine RL.ev (.assign rfl) rfl rfl ?_
  refine RL.nil (RC.back ?_)
  refine RC.seq ?_
  refine RC.block ?_
  refine RC.seq ?_
  refine RC.region rfl ?_
  refine RL.ev (.load1 sh2 rfl (ha.cell rfl)) rfl rfl ?_
  refine RL.ev (.move rfl) rfl rfl ?_
  refine RL.ev (.bin rfl rfl rfl) rfl rfl ?_
  refine RL.ev (.assign rfl) rfl rfl ?_
  refine RL.nil (RC.back ?_)
  refine RC.cond_dec rfl (fun h1 => ?_) (fun h1 => ?_)
  ·
    have q1 := h1
    refine RC.seq ?_
    refine RC.region rfl ?_
    refine RL.ev (.assign rfl) rfl rfl ?_
    refine RL.nil (RC.back ?_)
    refine RC.done (rs := [.tmp 7]) (vs := [_]) rfl rfl ⟨rfl, trivial⟩ ?_
    -- end 1
    rw [show stAt s x left = (s, 0) from if_pos q1]
    exact ⟨rfl, Ft.and (Ft.has ha) (Ft.and (Ft.has hb) (Ft.has hc)), G⟩
  ·
    have q1 := h1
    refine RC.seq ?_
    refine RC.region rfl ?_
    refine RL.ev (.load1 sh2 rfl (ha.cell rfl)) rfl rfl ?_
    refine RL.ev (.move rfl) rfl rfl ?_
    refine RL.ev (.bin rfl rfl rfl) rfl rfl ?_
    refine RL.ev (.assign rfl) rfl rfl ?_
    refine RL.nil (RC.back ?_)
    refine RC.cond_dec rfl (fun h2 => ?_) (fun h2 => ?_)
    ·
      have q2 := h2
      refine RC.seq ?_
      refine RC.region rfl ?_
      refine RL.ev (.load1 sh2 rfl (ha.cell rfl)) rfl rfl ?_
      refine RL.ev (.move rfl) rfl rfl ?_
      refine RL.ev (.as (.bin rfl rfl rfl) (wi64 (y := left + 1) (by rfl) (by omega))) rfl rfl ?_
      refine RL.ev (.bin rfl rfl rfl) rfl rfl ?_
      refine RL.store sh2 rfl rfl rfl ha (by exact Nat.le_of_ble_eq_true rfl) (by rfl) rfl (fun w3 z3 ha a3 => ?_)
      have G := G.trans (a3.mono fun k _ e => .inl e)
      have hb := hb.upd a3 n1.symm
      have hc := hc.upd a3 n2.symm
      have hb_5 := hb_5.upd a3 n10__5.symm
      refine RL.nil (RC.back ?_)
      refine RC.seq ?_
      refine RC.region rfl ?_
      refine RL.ev (.assign rfl) rfl rfl ?_
      refine RL.nil (RC.back ?_)
      refine RC.done (rs := [.tmp 7]) (vs := [_]) rfl rfl ⟨rfl, trivial⟩ ?_
      -- end 2
      rw [show stAt s x left = ({ s with k := IntKind.i64.wrap (s.k - (left + 1)) }, 1) from by rw [stAt, if_neg q1, if_pos q2]]
      exact ⟨rfl, Ft.and (Ft.has ha) (Ft.and (Ft.has hb) (Ft.has hc)), G⟩
    ·
      have q2 := h2
      refine RC.skip (RC.back ?_)
      refine RC.seq ?_
      refine RC.region rfl ?_
      refine RL.ev (.field0 fo140_2 rfl) rfl rfl ?_
      refine RL.ev (.load1 sh2 rfl (hb_5.cell rfl)) rfl rfl ?_
      refine RL.ev (.field0 fo140_3 rfl) rfl rfl ?_
      refine RL.ev (.load1 sh2 rfl (hb_5.cell rfl)) rfl rfl ?_
      refine RL.ev (.buildS ze51 pl51 rfl rfl) rfl rfl ?_
      refine RL.store sh51 rfl rfl rfl hb (by exact Nat.le_of_ble_eq_true rfl) (by rfl) rfl (fun w4 z4 hb a4 => ?_)
      have G := G.trans (a4.mono fun k _ e => .inr (.inl e))
      have ha := ha.upd a4 n1
      have hc := hc.upd a4 n3.symm
      have hb_5 := hb_5.upd a4 n8__5.symm
      have hb : Has w4 b8 ((⟨x.n, x.v⟩ : It).cells) _ := hb
      refine RL.store sh4 rfl rfl rfl hc (by exact Nat.le_of_ble_eq_true rfl) (by rfl) rfl (fun w5 z5 hc a5 => ?_)
      have G := G.trans (a5.mono fun k _ e => .inr (.inr (e)))
      have ha := ha.upd a5 n2
      have hb := hb.upd a5 n3
      have hb_5 := hb_5.upd a5 n9__5.symm
      refine RL.nil (RC.back ?_)
      refine RC.seq ?_
      refine RC.region rfl ?_
      refine RL.ev (.assign rfl) rfl rfl ?_
      refine RL.nil (RC.back ?_)
      refine RC.done (rs := [.tmp 7]) (vs := [_]) rfl rfl ⟨rfl, trivial⟩ ?_
      -- end 3
      rw [show stAt s x left = (⟨s.k, ⟨x.n, x.v⟩, true⟩, -1) from by rw [stAt, if_neg q1, if_neg q2]]
      exact ⟨rfl, Ft.and (Ft.has ha) (Ft.and (Ft.has hb) (Ft.has hc)), G⟩
theorem at_end {l : List It} {p : Int} {x : It} {is : Bool} (h : (x, is) = atL l ⟨p, it0, false⟩) : (0 ≤ p ∧ p < l.length → l[p.toNat]? = some x ∧ (if (0 : Int) = 0 ∧ is = false then (3 : Int) else 0) = 0) ∧ (¬ (0 ≤ p ∧ p < l.length) → x = it0 ∧ (if (0 : Int) = 0 ∧ is = false then (3 : Int) else 0) = 3) := by
  unfold atL at h
  by_cases q : 0 ≤ p ∧ p < l.length
  · rw [if_pos q] at h
    obtain ⟨h1, h2⟩ := Prod.mk.inj h
    refine ⟨fun _ => ⟨?_, by rw [h2]; rfl⟩, fun e => absurd q e⟩
    obtain ⟨y, hy⟩ := getSome (l := l) (i := p.toNat) (by omega)
    rw [h1, List.getD_eq_getElem?_getD, hy]; rfl
  · rw [if_neg q] at h
    obtain ⟨h1, h2⟩ := Prod.mk.inj h
    exact ⟨fun e => absurd e q, fun _ => ⟨h1, by rw [h2]; rfl⟩⟩
theorem c_oAt (A : Ar) (na fa : Option Addr) (nc fc : Nat) (r : Int) (hr : U64 r) (p : Int) (hp : I64 p) (w : World) (hA : ArR w na fa A) :
    FC Tryz.prog 31 [arV na fa nc fc A, .int .u64 r, .int .i64 p] w (fun v w' => Sub w w' ∧ ∃ x e, v = .tuple #[x.val, .int .i64 e] ∧ (¬ isMap A r → x = it0 ∧ e = 1) ∧ ∀ l, isMap A r → IsT A r l → (0 ≤ p ∧ p < l.length → l[p.toNat]? = some x ∧ e = 0) ∧ (¬ (0 ≤ p ∧ p < l.length) → x = it0 ∧ e = 3)) := by
  refine FC.intro Tryz.func31 rfl Tryz.ntmps31 rfl ?_
  have S := Sub.refl w
  refine RC.seq ?_
  refine RC.region rfl ?_
  refine RL.box rfl rfl rfl (fun b_3 w_3 e_3 z_3 hb_3 s_3 => ?_)
  have ge_3 := S.le e_3
  have S := S.trans s_3
  have hb_3 : Has w_3 b_3 ([.slice na A.nodes.length nc, .slice fa A.free.length fc]) _ := hb_3
  refine RL.alloc ze51 rfl rfl (fun b_6 w_6 e_6 z_6 hb_6 s_6 => ?_)
  have ge_6 := S.le e_6
  have n_3__6 := hb_3.ne e_6
  have S := S.trans s_6
  have hb_3 := hb_3.sub s_6
  refine RL.ev (.assign rfl) rfl rfl ?_
  refine RL.nil (RC.back ?_)
  refine RC.seq ?_
  refine RC.region rfl ?_
  refine RL.alloc ze51 rfl rfl (fun b_8 w_8 e_8 z_8 hb_8 s_8 => ?_)
  have ge_8 := S.le e_8
  have n_3__8 := hb_3.ne e_8
  have n_6__8 := hb_6.ne e_8
  have S := S.trans s_8
  have hb_3 := hb_3.sub s_8
  have hb_6 := hb_6.sub s_8
  refine RL.nil (RC.back ?_)
  refine RC.seq ?_
  refine RC.region rfl ?_
  refine RL.ev (.move rfl) rfl rfl ?_
  refine RL.alloc ze4 rfl rfl (fun b_9 w_9 e_9 z_9 hb_9 s_9 => ?_)
  have ge_9 := S.le e_9
  have n_3__9 := hb_3.ne e_9
  have n_6__9 := hb_6.ne e_9
  have n_8__9 := hb_8.ne e_9
  have S := S.trans s_9
  have hb_3 := hb_3.sub s_9
  have hb_6 := hb_6.sub s_9
  have hb_8 := hb_8.sub s_9
  refine RL.alloc ze2 rfl rfl (fun b_10 w_10 e_10 z_10 hb_10 s_10 => ?_)
  have ge_10 := S.le e_10
  have n_3__10 := hb_3.ne e_10
  have n_6__10 := hb_6.ne e_10
  have n_8__10 := hb_8.ne e_10
  have n_9__10 := hb_9.ne e_10
  have S := S.trans s_10
  have hb_3 := hb_3.sub s_10
  have hb_6 := hb_6.sub s_10
  have hb_8 := hb_8.sub s_10
  have hb_9 := hb_9.sub s_10
  refine RL.store sh4 rfl rfl rfl hb_9 (by exact Nat.le_of_ble_eq_true rfl) (by rfl) rfl (fun w1 z1 hb_9 a1 => ?_)
  have S := S.upd a1 ge_9
  have hb_3 := hb_3.upd a1 n_3__9
  have hb_6 := hb_6.upd a1 n_6__9
  have hb_8 := hb_8.upd a1 n_8__9
  have hb_10 := hb_10.upd a1 n_9__10.symm
  refine RL.store sh2 rfl rfl rfl hb_10 (by exact Nat.le_of_ble_eq_true rfl) (by rfl) rfl (fun w2 z2 hb_10 a2 => ?_)
  have S := S.upd a2 ge_10
  have hb_3 := hb_3.upd a2 n_3__10
  have hb_6 := hb_6.upd a2 n_6__10
  have hb_8 := hb_8.upd a2 n_8__10
  have hb_9 := hb_9.upd a2 n_9__10
  have hb_8 : Has w2 b_8 it0.cells 51 := hb_8
  refine RL.nil (RC.back ?_)
  refine RC.seq ?_
  refine RC.region rfl ?_
  refine RL.ev (.loadR ([.slice na A.nodes.length nc, .slice fa A.free.length fc]) sh26 rfl hb_3.row rfl) rfl rfl ?_
  refine RL.ev (.move rfl) rfl rfl ?_
  refine RL.ev (.func (xs := []) (ys := [_, _, _]) rfl rfl) rfl rfl ?_
  refine RL.call rfl ok68 (c_down 69 ok69 _ _ _ _ (t_at b_10 b_8 b_9 n_8__10.symm n_9__10.symm n_8__9) A na fa nc fc r hr (⟨p, it0, false⟩ : AtS) (· < w.heap.size) w2 ((Ft.of_sub fun u s => hA.sub s).sub S) (fun k hk e => by rcases e with e | e | e <;> omega) (Ft.and (Ft.has hb_10) (Ft.and (Ft.has hb_8) (Ft.has hb_9)))) rfl rfl ?_
  rintro _ w3 ⟨ag, hr2⟩
  obtain ⟨s, e, rfl, hS, hse⟩ := down_form hr2
  have S := S.agrN ag (fun k e => e.elim (fun e => e ▸ ge_10) (fun e => e.elim (fun e => e ▸ ge_8) (fun e => e ▸ ge_9)))
  have hb_3 := hb_3.step ag (fun e => e.elim (fun e => n_3__10 e) (fun e => e.elim (fun e => n_3__8 e) (fun e => n_3__9 e)))
  have hb_6 := hb_6.step ag (fun e => e.elim (fun e => n_6__10 e) (fun e => e.elim (fun e => n_6__8 e) (fun e => n_6__9 e)))
  obtain ⟨hb_10, hb_8, hb_9⟩ : IAt b_10 b_8 b_9 s w3 := hS.now
  refine RL.ev (.assign rfl) rfl rfl ?_
  refine RL.nil (RC.back ?_)
  refine RC.seq ?_
  refine RC.region rfl ?_
  refine RL.ev (.loadR (s.x.cells) sh51 rfl hb_8.row rfl) rfl rfl ?_
  refine RL.ev (.load1 sh4 rfl (hb_9.cell rfl)) rfl rfl ?_
  refine RL.ev (.move rfl) rfl rfl ?_
  refine RL.call rfl ok70 (c_found s.x s.is e w3) rfl rfl ?_
  rintro _ w5 ⟨rfl, s6⟩
  have S := S.trans s6
  have hb_3 := hb_3.sub s6
  have hb_6 := hb_6.sub s6
  have hb_10 := hb_10.sub s6
  have hb_8 := hb_8.sub s6
  have hb_9 := hb_9.sub s6
  refine RL.ev (.extract rfl rfl) rfl rfl ?_
  refine RL.ev (.extract rfl rfl) rfl rfl ?_
  refine RL.store sh51 rfl rfl rfl hb_6 (by exact Nat.le_of_ble_eq_true rfl) (by rfl) rfl (fun w7 z7 hb_6 a7 => ?_)
  have S := S.upd a7 ge_6
  have hb_3 := hb_3.upd a7 n_3__6
  have hb_10 := hb_10.upd a7 n_6__10.symm
  have hb_8 := hb_8.upd a7 n_6__8.symm
  have hb_9 := hb_9.upd a7 n_6__9.symm
  have hb_6 : Has w7 b_6 (s.x.cells) _ := hb_6.now (by kernel_rfl)
  refine RL.ev (.assign rfl) rfl rfl ?_
  refine RL.nil (RC.back ?_)
  refine RC.done (rs := [.cell 6 51, .tmp 7]) (vs := [_, _]) rfl rfl ⟨⟨_, rfl, .inr ⟨s.x.cells, sh51, hb_6.row, rfl⟩⟩, rfl, trivial⟩ ?_
  -- end 1
  refine ⟨S, s.x, _, rfl, fun h => ?_, fun l hm hl => ?_⟩
  · rcases hse with ⟨_, h2, h3⟩ | ⟨h2, _⟩
    · rw [h2, h3]; exact ⟨rfl, rfl⟩
    · exact absurd h2 h
  · rcases hse with ⟨h2, _⟩ | ⟨_, h2, h3⟩
    · exact absurd hm h2
    · have h4 := isMap_len hm hl
      have h5 := down_at hl 201 ⟨p, it0, false⟩ (by omega) (by omega) hp
      rw [← h3] at h5
      rw [h2]
      exact at_end h5
def IFl (key : Int) (b5 b8 b9 : Nat) (s : It × Bool) (u : World) : Prop := Has u b5 [.int .i64 key] 2 ∧ (Has u b8 s.1.cells 51 ∧ Has u b9 [.bool s.2] 4)
theorem t_ceil (key : Int) (b5 b8 b9 : Nat) (n1 : b5 ≠ b8) (n2 : b5 ≠ b9) (n3 : b8 ≠ b9) : Tells 71 [.pointer (some ⟨b5, 0, none⟩), .pointer (some ⟨b8, 0, none⟩), .pointer (some ⟨b9, 0, none⟩)] (fun k => k = b5 ∨ (k = b8 ∨ k = b9)) (IFl key b5 b8 b9) (stCeil key) := by
  intro s x left w hx h0 h1 hS
  have hs : IFl key b5 b8 b9 s w := hS.now
  obtain ⟨ha, hb, hc⟩ := hs
  refine FC.intro Tryz.func71 rfl Tryz.ntmps71 rfl ?_
  have G : Agr (fun k => k = b5 ∨ (k = b8 ∨ k = b9)) w w := Agr.refl _ _
  refine RC.seq ?_
  refine RC.region rfl ?_
  refine RL.box rfl rfl rfl (fun b_5 w_5 e_5 z_5 hb_5 s_5 => ?_)
  have n5__5 := ha.ne e_5
  have n8__5 := hb.ne e_5
  have n9__5 := hc.ne e_5
  have geG_5 := agLe G e_5
  have G := G.trans s_5.agr
  have ha := ha.sub s_5
  have hb := hb.sub s_5
  have hc := hc.sub s_5
  have hb_5 : Has w_5 b_5 (x.cells) _ := hb_5
  refine RL.ev (.assign rfl) rfl rfl ?_
  refine RL.nil (RC.back ?_)
  refine RC.seq ?_
  refine RC.seq ?_
  refine RC.region rfl ?_
  refine RL.ev (.field0 fo140_2 rfl) rfl rfl ?_
  refine RL.ev (.load1 sh2 rfl (hb_5.cell rfl)) rfl rfl ?_
  refine RL.ev (.load1 sh2 rfl (ha.cell rfl)) rfl rfl ?_
  refine RL.ev (.bin rfl rfl rfl) rfl rfl ?_
  refine RL.nil (RC.back ?_)
  refine RC.cond_dec rfl (fun h1 => ?_) (fun h1 => ?_)
  ·
    have q1 := h1
    refine RC.seq ?_
    refine RC.region rfl ?_
    refine RL.ev (.assign rfl) rfl rfl ?_
    refine RL.nil (RC.back ?_)
    refine RC.done (rs := [.tmp 7]) (vs := [_]) rfl rfl ⟨rfl, trivial⟩ ?_
    -- end 1
    rw [show stCeil key s x left = (s, 1) from if_pos q1]
    exact ⟨rfl, Ft.and (Ft.has ha) (Ft.and (Ft.has hb) (Ft.has hc)), G⟩
  ·
    have q1 := h1
    refine RC.skip (RC.back ?_)
    refine RC.seq ?_
    refine RC.region rfl ?_
    refine RL.ev (.field0 fo140_2 rfl) rfl rfl ?_
    refine RL.ev (.load1 sh2 rfl (hb_5.cell rfl)) rfl rfl ?_
    refine RL.ev (.field0 fo140_3 rfl) rfl rfl ?_
    refine RL.ev (.load1 sh2 rfl (hb_5.cell rfl)) rfl rfl ?_
    refine RL.ev (.buildS ze51 pl51 rfl rfl) rfl rfl ?_
    refine RL.store sh51 rfl rfl rfl hb (by exact Nat.le_of_ble_eq_true rfl) (by rfl) rfl (fun w2 z2 hb a2 => ?_)
    have G := G.trans (a2.mono fun k _ e => .inr (.inl e))
    have ha := ha.upd a2 n1
    have hc := hc.upd a2 n3.symm
    have hb_5 := hb_5.upd a2 n8__5.symm
    refine RL.store sh4 rfl rfl rfl hc (by exact Nat.le_of_ble_eq_true rfl) (by rfl) rfl (fun w3 z3 hc a3 => ?_)
    have G := G.trans (a3.mono fun k _ e => .inr (.inr (e)))
    have ha := ha.upd a3 n2
    have hb := hb.upd a3 n3
    have hb_5 := hb_5.upd a3 n9__5.symm
    refine RL.nil (RC.back ?_)
    refine RC.seq ?_
    refine RC.region rfl ?_
    refine RL.ev (.assign rfl) rfl rfl ?_
    refine RL.nil (RC.back ?_)
    refine RC.done (rs := [.tmp 7]) (vs := [_]) rfl rfl ⟨rfl, trivial⟩ ?_
    -- end 2
    rw [show stCeil key s x left = ((⟨x.n, x.v⟩, true), 0) from if_neg q1]
    exact ⟨rfl, Ft.and (Ft.has ha) (Ft.and (Ft.has hb) (Ft.has hc)), G⟩
/-- what is found, or none -/
def foundE (s : It × Bool) : Int := if s.2 = false then 3 else 0
theorem c_oCeil (A : Ar) (na fa : Option Addr) (nc fc : Nat) (r : Int) (hr : U64 r) (key : Int) (w : World) (hA : ArR w na fa A) :
    FC Tryz.prog 32 [arV na fa nc fc A, .int .u64 r, .int .i64 key] w (fun v w' => Sub w w' ∧ ∃ x e, v = .tuple #[x.val, .int .i64 e] ∧ (¬ isMap A r → x = it0 ∧ e = 1) ∧ ∀ l, isMap A r → IsT A r l → x = (ceilL key l (it0, false)).1 ∧ e = foundE (ceilL key l (it0, false))) := by
  refine FC.intro Tryz.func32 rfl Tryz.ntmps32 rfl ?_
  have S := Sub.refl w
  refine RC.seq ?_
  refine RC.region rfl ?_
  refine RL.box rfl rfl rfl (fun b_3 w_3 e_3 z_3 hb_3 s_3 => ?_)
  have ge_3 := S.le e_3
  have S := S.trans s_3
  have hb_3 : Has w_3 b_3 ([.slice na A.nodes.length nc, .slice fa A.free.length fc]) _ := hb_3
  refine RL.box rfl rfl rfl (fun b_5 w_5 e_5 z_5 hb_5 s_5 => ?_)
  have ge_5 := S.le e_5
  have n_3__5 := hb_3.ne e_5
  have S := S.trans s_5
  have hb_3 := hb_3.sub s_5
  refine RL.alloc ze51 rfl rfl (fun b_6 w_6 e_6 z_6 hb_6 s_6 => ?_)
  have ge_6 := S.le e_6
  have n_3__6 := hb_3.ne e_6
  have n_5__6 := hb_5.ne e_6
  have S := S.trans s_6
  have hb_3 := hb_3.sub s_6
  have hb_5 := hb_5.sub s_6
  refine RL.ev (.assign rfl) rfl rfl ?_
  refine RL.nil (RC.back ?_)
  refine RC.seq ?_
  refine RC.region rfl ?_
  refine RL.alloc ze51 rfl rfl (fun b_8 w_8 e_8 z_8 hb_8 s_8 => ?_)
  have ge_8 := S.le e_8
  have n_3__8 := hb_3.ne e_8
  have n_5__8 := hb_5.ne e_8
  have n_6__8 := hb_6.ne e_8
  have S := S.trans s_8
  have hb_3 := hb_3.sub s_8
  have hb_5 := hb_5.sub s_8
  have hb_6 := hb_6.sub s_8
  refine RL.nil (RC.back ?_)
  refine RC.seq ?_
  refine RC.region rfl ?_
  refine RL.alloc ze4 rfl rfl (fun b_9 w_9 e_9 z_9 hb_9 s_9 => ?_)
  have ge_9 := S.le e_9
  have n_3__9 := hb_3.ne e_9
  have n_5__9 := hb_5.ne e_9
  have n_6__9 := hb_6.ne e_9
  have n_8__9 := hb_8.ne e_9
  have S := S.trans s_9
  have hb_3 := hb_3.sub s_9
  have hb_5 := hb_5.sub s_9
  have hb_6 := hb_6.sub s_9
  have hb_8 := hb_8.sub s_9
  refine RL.store sh4 rfl rfl rfl hb_9 (by exact Nat.le_of_ble_eq_true rfl) (by rfl) rfl (fun w1 z1 hb_9 a1 => ?_)
  have S := S.upd a1 ge_9
  have hb_3 := hb_3.upd a1 n_3__9
  have hb_5 := hb_5.upd a1 n_5__9
  have hb_6 := hb_6.upd a1 n_6__9
  have hb_8 := hb_8.upd a1 n_8__9
  refine RL.nil (RC.back ?_)
  refine RC.seq ?_
  refine RC.region rfl ?_
  refine RL.ev (.loadR ([.slice na A.nodes.length nc, .slice fa A.free.length fc]) sh26 rfl hb_3.row rfl) rfl rfl ?_
  refine RL.ev (.move rfl) rfl rfl ?_
  refine RL.ev (.func (xs := []) (ys := [_, _, _]) rfl rfl) rfl rfl ?_
  refine RL.call rfl ok68 (c_down 71 ok71 _ _ _ _ (t_ceil key b_5 b_8 b_9 n_5__8 n_5__9 n_8__9) A na fa nc fc r hr ((it0, false) : It × Bool) (· < w.heap.size) w1 ((Ft.of_sub fun u s => hA.sub s).sub S) (fun k hk e => by rcases e with e | e | e <;> omega) (Ft.and (Ft.has hb_5) (Ft.and (Ft.has hb_8) (Ft.has hb_9)))) rfl rfl ?_
  rintro _ w2 ⟨ag, hr2⟩
  obtain ⟨s, e, rfl, hS, hse⟩ := down_form hr2
  have S := S.agrN ag (fun k e => e.elim (fun e => e ▸ ge_5) (fun e => e.elim (fun e => e ▸ ge_8) (fun e => e ▸ ge_9)))
  have hb_3 := hb_3.step ag (fun e => e.elim (fun e => n_3__5 e) (fun e => e.elim (fun e => n_3__8 e) (fun e => n_3__9 e)))
  have hb_6 := hb_6.step ag (fun e => e.elim (fun e => n_5__6.symm e) (fun e => e.elim (fun e => n_6__8 e) (fun e => n_6__9 e)))
  obtain ⟨hb_5, hb_8, hb_9⟩ : IFl key b_5 b_8 b_9 s w2 := hS.now
  refine RL.ev (.assign rfl) rfl rfl ?_
  refine RL.nil (RC.back ?_)
  refine RC.seq ?_
  refine RC.region rfl ?_
  refine RL.ev (.loadR (s.1.cells) sh51 rfl hb_8.row rfl) rfl rfl ?_
  refine RL.ev (.load1 sh4 rfl (hb_9.cell rfl)) rfl rfl ?_
  refine RL.ev (.move rfl) rfl rfl ?_
  refine RL.call rfl ok70 (c_found s.1 s.2 e w2) rfl rfl ?_
  rintro _ w4 ⟨rfl, s5⟩
  have S := S.trans s5
  have hb_3 := hb_3.sub s5
  have hb_6 := hb_6.sub s5
  have hb_5 := hb_5.sub s5
  have hb_8 := hb_8.sub s5
  have hb_9 := hb_9.sub s5
  refine RL.ev (.extract rfl rfl) rfl rfl ?_
  refine RL.ev (.extract rfl rfl) rfl rfl ?_
  refine RL.store sh51 rfl rfl rfl hb_6 (by exact Nat.le_of_ble_eq_true rfl) (by rfl) rfl (fun w6 z6 hb_6 a6 => ?_)
  have S := S.upd a6 ge_6
  have hb_3 := hb_3.upd a6 n_3__6
  have hb_5 := hb_5.upd a6 n_5__6
  have hb_8 := hb_8.upd a6 n_6__8.symm
  have hb_9 := hb_9.upd a6 n_6__9.symm
  have hb_6 : Has w6 b_6 (s.1.cells) _ := hb_6.now (by kernel_rfl)
  refine RL.ev (.assign rfl) rfl rfl ?_
  refine RL.nil (RC.back ?_)
  refine RC.done (rs := [.cell 6 51, .tmp 7]) (vs := [_, _]) rfl rfl ⟨⟨_, rfl, .inr ⟨s.1.cells, sh51, hb_6.row, rfl⟩⟩, rfl, trivial⟩ ?_
  -- end 1
  refine ⟨S, s.1, _, rfl, fun h => ?_, fun l hm hl => ?_⟩
  · rcases hse with ⟨_, h2, h3⟩ | ⟨h2, _⟩
    · rw [h2, h3]; exact ⟨rfl, rfl⟩
    · exact absurd h2 h
  · rcases hse with ⟨h2, _⟩ | ⟨_, h2, h3⟩
    · exact absurd hm h2
    · have h4 := isMap_len hm hl
      have h5 := down_ceil key hl 201 (it0, false) (by omega)
      rw [← h3] at h5
      rw [h2, ← h5]
      exact ⟨rfl, by simp [foundE]⟩
end Go.Proofs.YtbjmllnddanniaaGreat
set_option linter.unusedVariables false
set_option linter.unusedSimpArgs false
namespace Go.Proofs.YtbjmllnddanniaaGreat
open Go Go.XL
theorem Ext.isT {A A' : Ar} (h : Ext A A') {r : Int} {L : List It} (hr : IsT A r L) : IsT A' r L := by
  induction hr with
  | nil => exact .nil
  | node h1 _ _ h4 h5 ih1 ih2 => exact .node (h.get h1) ih1 ih2 h4 h5
def szF (A : Ar) (a b : Int) : Int := IntKind.i64.wrap (IntKind.i64.wrap (1 + sizeA A a) + sizeA A b)
def mkN (A : Ar) (n v a b : Int) : Node := tNode 0 n v (szF A a b) a b
/-- one node is made -/
def Mk (s : St) (n v a b : Int) (s' : St) (r : Int) : Prop :=
  (¬ s.2 = 0 ∧ s' = s ∧ r = 0) ∨ (s.2 = 0 ∧ mayMake s.1 (mkN s.1 n v a b) ∧ 0 < s.1.free.length ∧ s' = (makeA s.1 (mkN s.1 n v a b), 0) ∧ r = makeR s.1) ∨
  (s.2 = 0 ∧ mayMake s.1 (mkN s.1 n v a b) ∧ s.1.free.length = 0 ∧ s' = (s.1, 2) ∧ r = 0) ∨ (s.2 = 0 ∧ ¬ mayMake s.1 (mkN s.1 n v a b) ∧ s' = (s.1, 1) ∧ r = 0)
theorem IsT.right {A : Ar} {r : Int} {L : List It} (h : IsT A r L) : rightR r = true := by
  cases h with
  | nil => exact (rightR_iff 0).2 (.inl rfl)
  | node h1 =>
    have h2 := (getA_rng h1).1
    refine Classical.byContradiction fun e => ?_
    rw [placeR_not (fun hn : nodeR r => e hn.2)] at h2
    omega
theorem Mk.gs {s s' : St} {n v a b r : Int} (h : Mk s n v a b s' r) (hA : AOk s.1) (hk : s.2 = 0 → rightR a = true ∧ rightR b = true) : Gs 1 s s' := by
  have hmay : s.2 = 0 → mayMake s.1 (mkN s.1 n v a b) := fun h0 => by
    obtain ⟨h1, h2⟩ := hk h0
    refine ⟨hA, Int.le_refl 1, (by decide : (1 : Int) ≤ 100), ?_⟩
    have h3 : rightR 0 = true := (rightR_iff 0).2 (.inl rfl)
    rw [well_iff]
    refine ⟨by simp [x0, mkN, tNode], ?_⟩
    simp [x0, mkN, tNode, Node.kids, h1, h2, h3]
  rcases h with ⟨h0, rfl, rfl⟩ | ⟨h0, hm, hf, rfl, rfl⟩ | ⟨h0, hm, hf, rfl, rfl⟩ | ⟨h0, hm, rfl, rfl⟩
  · exact (Gs.refl hA).mono (by omega)
  · refine ⟨make_ext hA hf, make_ok hm hf, ?_, fun e => absurd h0 e, fun _ e => absurd rfl e⟩
    simp only [makeA, List.length_take]; omega
  · exact ⟨Ext.refl _, hA, by omega, fun e => absurd h0 e, fun _ _ => ⟨rfl, by omega⟩⟩
  · exact absurd (hmay h0) hm
theorem Mk.u64 {s s' : St} {n v a b r : Int} (h : Mk s n v a b s' r) : U64 r := by
  rcases h with ⟨_, _, rfl⟩ | ⟨_, hm, hf, _, rfl⟩ | ⟨_, _, _, _, rfl⟩ | ⟨_, _, _, rfl⟩
  · unfold U64; decide
  · exact ofR_U64 (make_isR hm.1 hf)
  · unfold U64; decide
  · unfold U64; decide
theorem Mk.isT {s s' : St} {a b r : Int} {it : It} {L R : List It} (h : Mk s it.k it.v a b s' r) (hA : AOk s.1) (h0 : s'.2 = 0) (ha : IsT s.1 a L) (hb : IsT s.1 b R) (hl : L.length + R.length ≤ 1000000)
    (hp : ∀ y ∈ L ++ R, beforeK it.k y.k = true) (hs : Srt (L ++ it :: R)) : IsT s'.1 r (L ++ it :: R) := by
  rcases h with ⟨h1, rfl, rfl⟩ | ⟨h1, hm, hf, rfl, rfl⟩ | ⟨_, _, _, rfl, _⟩ | ⟨_, _, rfl, _⟩
  · exact absurd h0 h1
  · have hx := make_ext (x := mkN s.1 it.k it.v a b) hA hf
    refine .node (g := genAt s.1 (lastAt s.1)) (a := a) (b := b) ?_ (hx.isT ha) (hx.isT hb) hp hs
    rw [get_made hm hf]
    have hz : szF s.1 a b = (L.length : Int) + R.length + 1 := by
      unfold szF
      rw [sizeA_isT ha, sizeA_isT hb]
      have e1 : IntKind.i64.wrap (1 + (L.length : Int)) = 1 + L.length := wrap_i64 (by omega)
      have e2 : IntKind.i64.wrap (1 + (L.length : Int) + R.length) = 1 + L.length + R.length := wrap_i64 (by omega)
      rw [e1, e2]
      omega
    simp only [madeN, mkN, tNode, hz]
  · exact absurd h0 (show ¬ (2 : Int) = 0 by decide)
  · exact absurd h0 (show ¬ (1 : Int) = 0 by decide)

def ltL (key : Int) (L : List It) : List It := L.filter fun x => decide (x.k < key)
def gtL (key : Int) (L : List It) : List It := L.filter fun x => decide (key < x.k)
def putL (L : List It) (key v : Int) : List It := ltL key L ++ ⟨key, v⟩ :: gtL key L
def delL (L : List It) (key : Int) : List It := L.filter fun x => decide (¬ x.k = key)
theorem filter_all {p : It → Bool} {L : List It} (h : ∀ y ∈ L, p y = true) : L.filter p = L := List.filter_eq_self.2 h
section
variable {L R : List It} {it : It} {key v : Int}
theorem Srt.sub {p : It → Bool} (h : Srt L) : Srt (L.filter p) := List.Pairwise.filter _ h
theorem Srt.put (h : Srt L) : Srt (putL L key v) := by
  unfold putL
  refine Srt.join h.sub h.sub (fun y hy => ?_) (fun y hy => ?_)
  · have := (List.mem_filter.1 hy).2; simpa using this
  · have := (List.mem_filter.1 hy).2; simpa using this
end
end Go.Proofs.YtbjmllnddanniaaGreat
set_option linter.unusedVariables false
set_option linter.unusedSimpArgs false
namespace Go.Proofs.YtbjmllnddanniaaGreat
open Go Go.XL
/-- a row put together of keys -/
def rowN (f : Int → Int) (g : Int → Int) (most : Nat) (l : List Int) : Nat → List It
  | 0 => []
  | i + 1 => if i < most then putR (rowN f g most l i) (f (l.getD i 0)) (g i) else rowN f g most l i
theorem rowN_put {f g : Int → Int} {most i : Nat} {l : List Int} {x : Int} (h : l[i]? = some x) (hi : i < most) : rowN f g most l (i + 1) = putR (rowN f g most l i) (f x) (g i) := by
  rw [rowN, if_pos hi, List.getD_eq_getElem?_getD, h]; rfl
theorem rowN_stay {f g : Int → Int} {most i : Nat} {l : List Int} (hi : ¬ i < most) : rowN f g most l (i + 1) = rowN f g most l i := by rw [rowN, if_neg hi]
theorem rowN_srt (f g : Int → Int) (most : Nat) (l : List Int) : ∀ i, Srt (rowN f g most l i)
  | 0 => List.Pairwise.nil
  | i + 1 => by
    rw [rowN]
    split
    · exact putR_ok (rowN_srt f g most l i) _ _
    · exact rowN_srt f g most l i
theorem rowN_len (f g : Int → Int) (most : Nat) (l : List Int) : ∀ i, (rowN f g most l i).length ≤ most ∧ (rowN f g most l i).length ≤ i
  | 0 => by simp [rowN]
  | i + 1 => by
    have h := rowN_len f g most l i
    rw [rowN]
    split
    · have := putR_len (rowN f g most l i) (f (l.getD i 0)) (g i); omega
    · omega
theorem rowN_all {f g : Int → Int} {most : Nat} {l : List Int} {P : It → Prop} (hl : ∀ x ∈ l, ∀ i : Nat, i < most → P ⟨f x, g i⟩) : ∀ i, i ≤ l.length → ∀ z ∈ rowN f g most l i, P z
  | 0, _ => by simp [rowN]
  | i + 1, hi => by
    intro z hz
    obtain ⟨x, hx⟩ := getSome (l := l) (i := i) (by omega)
    by_cases q : i < most
    · rw [rowN_put hx q] at hz
      rcases (putR_mem (rowN_srt f g most l i)).1 hz with h | h
      · rw [h]; exact hl x (List.mem_of_getElem? hx) i q
      · exact rowN_all hl i (by omega) z h.1
    · rw [rowN_stay q] at hz
      exact rowN_all hl i (by omega) z hz
/-- is a key there? -/
def hasK (l : List It) (key : Int) : Bool := l.any fun x => decide (x.k = key)
theorem hasK_iff {l : List It} {key : Int} : hasK l key = true ↔ ∃ y ∈ l, y.k = key := by simp [hasK]
theorem hasK_no {l : List It} {key : Int} (h : ∀ y ∈ l, ¬ y.k = key) : hasK l key = false := by
  rw [Bool.eq_false_iff]; intro e; obtain ⟨y, hy, e⟩ := hasK_iff.1 e; exact h y hy e
end Go.Proofs.YtbjmllnddanniaaGreat
set_option linter.unusedVariables false
set_option linter.unusedSimpArgs false
namespace Go.Proofs.YtbjmllnddanniaaGreat
open Go Go.XL
def putM (L : List It) (key v : Int) : List It := ⟨key, v⟩ :: delL L key
section
variable {L M : List It} {key v : Int}
theorem delL_mem {y : It} : y ∈ delL L key ↔ y ∈ L ∧ ¬ y.k = key := by unfold delL; rw [List.mem_filter, decide_eq_true_iff]
theorem Ap.del (h : Ap L) : Ap (delL L key) := h.filter _
theorem Ap.put (h : Ap L) : Ap (putM L key v) := List.pairwise_cons.2 ⟨fun y hy e => (delL_mem.1 hy).2 e.symm, h.del⟩
theorem delL_none (h : ∀ x ∈ L, ¬ x.k = key) : delL L key = L := filter_all fun y hy => by simpa using h y hy
theorem delL_len (h : Ap L) : (delL L key).length + (if hasK L key then 1 else 0) = L.length := by
  induction L with
  | nil => rfl
  | cons x L ih =>
    obtain ⟨h1, h2⟩ := List.pairwise_cons.1 h
    by_cases e : x.k = key
    · have h3 : delL L key = L := delL_none fun y hy e2 => h1 y hy (by omega)
      have h4 : hasK (x :: L) key = true := hasK_iff.2 ⟨x, by simp, e⟩
      have h5 : delL (x :: L) key = delL L key := by unfold delL; rw [List.filter_cons, if_neg (by simpa using e)]
      rw [h4, h5, h3]; rfl
    · have h4 : hasK (x :: L) key = hasK L key := by simp [hasK, e]
      have h5 : delL (x :: L) key = x :: delL L key := by unfold delL; rw [List.filter_cons, if_pos (by simpa using e)]
      rw [h4, h5, List.length_cons, List.length_cons, ← ih h2]; omega
theorem putM_len (h : Ap L) : (putM L key v).length + (if hasK L key then 1 else 0) = L.length + 1 := by
  have := delL_len (key := key) h
  unfold putM
  rw [List.length_cons]; omega
variable {lv i : Nat}
theorem Ap.of (h : Ap L) (lv i : Nat) : Ap (ofL lv i L) := h.filter _
end
def cnt : Nat → List It → Nat
  | 0, l => if l.length ≤ 1 then l.length else 1 + l.length
  | k + 1, l => if l.length ≤ 1 then l.length else 1 + (cnt k (ofL (9 - k) 0 l) + cnt k (ofL (9 - k) 1 l) + cnt k (ofL (9 - k) 2 l) + cnt k (ofL (9 - k) 3 l))
theorem cnt_few {k : Nat} {l : List It} (h : l.length ≤ 1) : cnt k l = l.length := by cases k <;> (rw [cnt]; exact if_pos h)
theorem cnt_0 {l : List It} (h : 2 ≤ l.length) : cnt 0 l = 1 + l.length := by rw [cnt]; exact if_neg (by omega)
theorem cnt_s {k : Nat} {l : List It} (h : 2 ≤ l.length) : cnt (k + 1) l = 1 + (cnt k (ofL (9 - k) 0 l) + cnt k (ofL (9 - k) 1 l) + cnt k (ofL (9 - k) 2 l) + cnt k (ofL (9 - k) 3 l)) := by rw [cnt]; exact if_neg (by omega)
theorem cnt_le : ∀ (k : Nat) (l : List It), cnt k l ≤ (k + 2) * l.length
  | k, l => by
    by_cases h : l.length ≤ 1
    · rw [cnt_few h]; exact Nat.le_mul_of_pos_left _ (by omega)
    · cases k with
      | zero => rw [cnt_0 (by omega)]; omega
      | succ k =>
        rw [cnt_s (by omega)]
        have h0 := cnt_le k (ofL (9 - k) 0 l)
        have h1 := cnt_le k (ofL (9 - k) 1 l)
        have h2 := cnt_le k (ofL (9 - k) 2 l)
        have h3 := cnt_le k (ofL (9 - k) 3 l)
        have hp := part_len (9 - k) l
        have e : (k + 1 + 2) * l.length = (k + 2) * (ofL (9 - k) 0 l).length + (k + 2) * (ofL (9 - k) 1 l).length + (k + 2) * (ofL (9 - k) 2 l).length + (k + 2) * (ofL (9 - k) 3 l).length + l.length := by
          rw [← Nat.mul_add, ← Nat.mul_add, ← Nat.mul_add, hp, show k + 1 + 2 = (k + 2) + 1 by omega, Nat.succ_mul]
        omega
def HoQ (n : Nat) (s s' : St) : Prop := Gs n s s' ∧ (¬ s.2 = 0 → s' = s)
theorem MkX.bad {s s' : St} {x : Node} {r : Int} (h : MkX s x s' r) (hb : ¬ s.2 = 0) : s' = s := by
  rcases h with ⟨_, h, _⟩ | ⟨h, _⟩ | ⟨h, _⟩ | ⟨h, _⟩
  · exact h
  all_goals exact absurd h hb
theorem Ext.gs {A : Ar} {n : Nat} {s s' : St} (h : Ext A s.1) (g : Gs n s s') : Ext A s'.1 := h.trans g.ext
theorem HoQ.mono {n m : Nat} {s s' : St} (h : HoQ n s s') (hn : n ≤ m) : HoQ m s s' := ⟨h.1.mono hn, h.2⟩
theorem HoQ.trans {n m : Nat} {a b c : St} (h : HoQ n a b) (k : HoQ m b c) : HoQ (n + m) a c := ⟨h.1.trans k.1, fun e => by have e1 := h.2 e; rw [k.2 (by rw [e1]; exact e), e1]⟩
theorem MkX.hq {n : Nat} {s s' : St} {x : Node} {r : Int} (hm : MkX s x s' r) (h : Gs n s s') : HoQ n s s' := ⟨h, hm.bad⟩
/-- there is room for a key among those of its hash -/
def Room (key : Int) (L : List It) : Prop := hasK L key = false → (L.filter fun x => decide (hashOf x.k = hashOf key)).length ≤ 8
theorem Room.of {key : Int} {L : List It} {lv : Nat} (h : Room key L) : Room key (ofL lv (dig key lv) L) := by
  intro hn
  have h0 : hasK L key = false := hasK_no fun x hx e => by rw [hasK_iff.2 ⟨x, ofL_mem.2 ⟨hx, by rw [e]⟩, e⟩] at hn; cases hn
  refine Nat.le_trans (List.Sublist.length_le ?_) (h h0)
  exact (List.filter_sublist).filter _
theorem hasK_perm {key : Int} {L M : List It} (p : L.Perm M) : hasK L key = hasK M key := by
  rw [Bool.eq_iff_iff, hasK_iff, hasK_iff]
  exact ⟨fun ⟨y, hy, e⟩ => ⟨y, p.mem_iff.1 hy, e⟩, fun ⟨y, hy, e⟩ => ⟨y, p.mem_iff.2 hy, e⟩⟩
end Go.Proofs.YtbjmllnddanniaaGreat
set_option linter.unusedVariables false
set_option linter.unusedSimpArgs false
namespace Go.Proofs.YtbjmllnddanniaaGreat
open Go Go.XL
def bareH (y : Node) : Node := ⟨y.kind, y.gen, 0, 0, y.s, y.k0, y.k1, y.k2, y.k3, y.k4, y.k5, y.k6, y.k7, y.k8, 0, 0⟩
def leafH (y : Node) : Node := ⟨y.kind, y.gen, y.n, y.v, 0, 0, 0, 0, 0, 0, 0, 0, 0, 0, 0, 0⟩
theorem bareH_iff {y : Node} : bareH y = y ↔ y = hN y.kind y.gen 0 0 y.s y.kids := by
  cases y; simp [bareH, hN, Node.kids]; omega
theorem leafH_iff {y : Node} : leafH y = y ↔ y = hN y.kind y.gen y.n y.v 0 [] := by
  cases y; simp [leafH, hN]; omega
theorem hN_kid {kd g n v s : Int} {ks : List Int} {i : Nat} (h : i < 9) : (hN kd g n v s ks).kids.getD i 0 = ks.getD i 0 := by
  rcases i with _|_|_|_|_|_|_|_|_|i
  all_goals first | rfl | omega
theorem kids_ext {y : Node} {kd g n v s : Int} {ks : List Int} (h : y = hN kd g n v s y.kids) (e : ∀ i, i < 9 → y.kids.getD i 0 = ks.getD i 0) : y = hN kd g n v s ks := by
  rw [h]
  have e0 := e 0 (by omega)
  have e1 := e 1 (by omega)
  have e2 := e 2 (by omega)
  have e3 := e 3 (by omega)
  have e4 := e 4 (by omega)
  have e5 := e 5 (by omega)
  have e6 := e 6 (by omega)
  have e7 := e 7 (by omega)
  have e8 := e 8 (by omega)
  unfold hN
  rw [e0, e1, e2, e3, e4, e5, e6, e7, e8]
/-- what may be at a level -/
def MayT (A : Ar) (k : Nat) (r : Int) (d : Nat) (left : Int) (l : List It) : Prop := IsH A k r l ∧ Fam (10 - k) d l ∧ Ap l ∧ (l.length : Int) ≤ left
def MayP (A : Ar) (k : Nat) (r : Int) (d : Nat) (left : Int) (n : Int) : Prop := (∃ l, MayT A k r d left l ∧ n = l.length) ∨ (n = -1 ∧ ∀ l, ¬ MayT A k r d left l)
section
variable {A : Ar} {k d i : Nat} {r left n sum many : Int} {y : Node} {l : List It}
theorem MayP.rng (h : MayP A k r d left n) (hl : 0 ≤ left) : -1 ≤ n ∧ n ≤ left := by
  rcases h with ⟨l, h, rfl⟩ | ⟨rfl, _⟩
  · have := h.2.2.2; omega
  · omega
theorem mayT_0 (h0 : 0 ≤ left) : MayT A k 0 d left [] := ⟨isH_nil.2 rfl, Fam.nil _ _, List.Pairwise.nil, by simpa using h0⟩
theorem mayP_0 (h0 : 0 ≤ left) : MayP A k 0 d left 0 := .inl ⟨[], mayT_0 h0, rfl⟩
theorem MayT.cases (hr : ¬ r = 0) (h : MayT A k r d left l) : (∃ x, l = [x] ∧ lfA A r x) ∨ 2 ≤ l.length := by
  rcases row_cases l with rfl | ⟨x, rfl⟩ | hl
  · exact absurd (isH_nil.1 h.1) hr
  · exact .inl ⟨x, rfl, isH_one.1 h.1⟩
  · exact .inr hl
theorem mayP_bad (hr : ¬ r = 0) (h : getA A r = none ∨ left ≤ 0) : MayP A k r d left (-1) := by
  refine .inr ⟨rfl, fun l hT => ?_⟩
  have hp : 0 < l.length := by
    rcases row_cases l with rfl | ⟨x, rfl⟩ | hl
    · exact absurd (isH_nil.1 hT.1) hr
    · simp
    · omega
  have := hT.2.2.2
  rcases h with h | h
  · rcases hT.cases hr with ⟨x, _, g, hx⟩ | hl
    · rw [h] at hx; cases hx
    · obtain ⟨_, _, _, _, hx⟩ := hT.1.node hl
      rw [h] at hx; cases hx
  · omega
theorem lfA_iff (h : getA A r = some y) {x : It} : lfA A r x ↔ y.kind = 3 ∧ leafH y = y ∧ y.n = x.k ∧ y.v = x.v := by
  constructor
  · rintro ⟨g, hx⟩
    rw [h] at hx
    cases hx
    exact ⟨rfl, rfl, rfl, rfl⟩
  · rintro ⟨h1, h2, h3, h4⟩
    refine ⟨y.gen, ?_⟩
    have := leafH_iff.1 h2
    rw [h1, h3, h4] at this
    rw [h, ← this]
theorem mayP_leaf (hr : ¬ r = 0) (h : getA A r = some y) (h3 : y.kind = 3) (hl : 0 < left) : (leafH y = y ∧ hashOf y.n % 4 ^ (10 - k) = d → MayP A k r d left 1) ∧ (¬ (leafH y = y ∧ hashOf y.n % 4 ^ (10 - k) = d) → MayP A k r d left (-1)) := by
  constructor
  · rintro ⟨h1, h2⟩
    refine .inl ⟨[⟨y.n, y.v⟩], ⟨isH_one.2 ((lfA_iff h).2 ⟨h3, h1, rfl, rfl⟩), fun x hx => ?_, List.pairwise_singleton _ _, by simp only [List.length_singleton]; omega⟩, rfl⟩
    rw [List.mem_singleton.1 hx]; exact h2
  · intro hn
    refine .inr ⟨rfl, fun l hT => ?_⟩
    rcases hT.cases hr with ⟨x, rfl, hx⟩ | hl
    · have hx := (lfA_iff h).1 hx
      refine hn ⟨hx.2.1, ?_⟩
      rw [hx.2.2.1]
      exact hT.2.1 x (by simp)
    · obtain ⟨kd, g, ks, hk, hx⟩ := hT.1.node hl
      rw [h] at hx
      cases hx
      rcases hk with ⟨rfl, _⟩ | ⟨rfl, _⟩
      · exact absurd h3 (show ¬ (2 : Int) = 3 by decide)
      · exact absurd h3 (show ¬ (4 : Int) = 3 by decide)
theorem mayP_odd (hr : ¬ r = 0) (h : getA A r = some y) (h3 : ¬ y.kind = 3) (hb : ¬ bareH y = y ∨ y.kind = 2 ∧ k = 0 ∨ y.kind = 4 ∧ ¬ k = 0 ∨ ¬ y.kind = 2 ∧ ¬ y.kind = 4) : MayP A k r d left (-1) := by
  refine .inr ⟨rfl, fun l hT => ?_⟩
  rcases hT.cases hr with ⟨x, rfl, hx⟩ | hl
  · exact h3 ((lfA_iff h).1 hx).1
  · obtain ⟨kd, g, ks, hk, hx⟩ := hT.1.node hl
    rw [h] at hx
    cases hx
    rcases hb with hb | hb | hb | hb
    · exact hb rfl
    · rcases hk with ⟨rfl, q⟩ | ⟨rfl, q⟩
      · exact q hb.2
      · exact absurd hb.1 (show ¬ (4 : Int) = 2 by decide)
    · rcases hk with ⟨rfl, q⟩ | ⟨rfl, q⟩
      · exact absurd hb.1 (show ¬ (2 : Int) = 4 by decide)
      · exact hb.2 q
    · rcases hk with ⟨rfl, h⟩ | ⟨rfl, h⟩
      · exact hb.1 rfl
      · exact hb.2 rfl
theorem MayT.trie (h : getA A r = some y) (h2 : y.kind = 2) (hT : MayT A (k + 1) r d left l) : 2 ≤ l.length ∧ y.s = l.length ∧ (∀ j, j < 4 → IsH A k (y.kids.getD j 0) (ofL (9 - k) j l)) ∧ ∀ j, 4 ≤ j → j < 9 → y.kids.getD j 0 = 0 := by
  rcases hT.cases (getA_nz h) with ⟨x, rfl, hx⟩ | hl
  · have := ((lfA_iff h).1 hx).1; omega
  · obtain ⟨g, ks, e1, e2, e3⟩ := (isH_trie hl).1 hT.1
    rw [h] at e2
    cases e2
    refine ⟨hl, rfl, fun j hj => ?_, fun j h4 h9 => ?_⟩
    · rw [hN_kid (by omega)]; exact e3 j hj
    · rw [hN_kid h9, List.getD_eq_getElem?_getD, List.getElem?_eq_none (by omega)]; rfl
/-- how the loop over tables stands -/
def TrieS (A : Ar) (k : Nat) (y : Node) (d : Nat) (left : Int) (i : Nat) (sum : Int) : Prop := ∃ l : List It, (∀ x ∈ l, dig x.k (9 - k) < i) ∧ Fam (9 - k) d l ∧ Ap l ∧ (∀ j, j < i → j < 4 → IsH A k (y.kids.getD j 0) (ofL (9 - k) j l)) ∧ (∀ j, 4 ≤ j → j < i → y.kids.getD j 0 = 0) ∧ sum = l.length ∧ sum ≤ left
theorem trie_start (h0 : 0 ≤ left) : TrieS A k y d left 0 0 := ⟨[], fun x h => (by cases h), Fam.nil _ _, List.Pairwise.nil, fun j h => absurd h (by omega), fun j _ h => absurd h (by omega), rfl, h0⟩
theorem trie_step (hk : k ≤ 9) (hd : d < 4 ^ (9 - k)) (hS : TrieS A k y d left i sum) (hi : i < 9) (h4 : 4 ≤ i → y.kids.getD i 0 = 0) (hP : MayP A k (y.kids.getD i 0) (d + 4 ^ (9 - k) * (i % 4)) (left - sum) n) (hn : 0 ≤ n) : TrieS A k y d left (i + 1) (sum + n) := by
  obtain ⟨l, q1, q2, q3, q4, q5, q6, q7⟩ := hS
  rcases hP with ⟨m, ⟨m1, m2, m3, m4⟩, rfl⟩ | ⟨rfl, _⟩
  · rw [show 10 - k = 9 - k + 1 by omega] at m2
    by_cases hi4 : 4 ≤ i
    · rw [h4 hi4] at m1
      have hm : m = [] := m1.zero.1 rfl
      subst hm
      refine ⟨l, fun x hx => Nat.lt_succ_of_lt (q1 x hx), q2, q3, fun j hj hj4 => q4 j (by omega) hj4, fun j hj4 hj => ?_, by rw [q6]; simp, by simpa using q7⟩
      by_cases e : j = i
      · rw [e]; exact h4 hi4
      · exact q5 j hj4 (by omega)
    · rw [Nat.mod_eq_of_lt (by omega)] at m2
      obtain ⟨b1, b2⟩ := Fam.back hd (by omega) m2
      have of_l : ∀ j, i ≤ j → ofL (9 - k) j l = [] := fun j hj => List.filter_eq_nil_iff.2 fun x hx => by have := q1 x hx; simp; omega
      have of_m : ∀ j, ¬ j = i → ofL (9 - k) j m = [] := fun j hj => List.filter_eq_nil_iff.2 fun x hx => by have := b2 x hx; simp; omega
      have of_i : ofL (9 - k) i m = m := List.filter_eq_self.2 fun x hx => by simpa using b2 x hx
      have of_app : ∀ j, ofL (9 - k) j (l ++ m) = ofL (9 - k) j l ++ ofL (9 - k) j m := fun j => List.filter_append _ _
      refine ⟨l ++ m, fun x hx => ?_, fun x hx => ?_, List.pairwise_append.2 ⟨q3, m3, fun x hx z hz e => ?_⟩, fun j hj hj4 => ?_, fun j hj4 hj => absurd hj (by omega), by rw [q6, List.length_append]; omega, by omega⟩
      · rcases List.mem_append.1 hx with hx | hx
        · have := q1 x hx; omega
        · have := b2 x hx; omega
      · rcases List.mem_append.1 hx with hx | hx
        · exact q2 x hx
        · exact b1 x hx
      · have h1 := q1 x hx
        have h2 := b2 z hz
        rw [e] at h1; omega
      · rw [of_app]
        by_cases e : j = i
        · rw [e, of_l i (Nat.le_refl _), of_i]; exact m1
        · rw [of_m j e, List.append_nil]; exact q4 j (by omega) hj4
  · omega
theorem lt_succ_len (lv i : Nat) (l : List It) : (l.filter fun x => decide (dig x.k lv < i + 1)).length = (l.filter fun x => decide (dig x.k lv < i)).length + (ofL lv i l).length := by
  induction l with
  | nil => rfl
  | cons x l ih =>
    unfold ofL at ih ⊢
    simp only [List.filter_cons]
    rcases Nat.lt_trichotomy (dig x.k lv) i with h | h | h
    · rw [decide_eq_true (show dig x.k lv < i + 1 by omega), decide_eq_true h, decide_eq_false (show ¬ dig x.k lv = i by omega)]
      simp only [if_true, Bool.false_eq_true, if_false, List.length_cons, ih]; omega
    · rw [decide_eq_true (show dig x.k lv < i + 1 by omega), decide_eq_false (show ¬ dig x.k lv < i by omega), decide_eq_true h]
      simp only [if_true, Bool.false_eq_true, if_false, List.length_cons, ih]; omega
    · rw [decide_eq_false (show ¬ dig x.k lv < i + 1 by omega), decide_eq_false (show ¬ dig x.k lv < i by omega), decide_eq_false (show ¬ dig x.k lv = i by omega)]
      simp only [Bool.false_eq_true, if_false, ih]
theorem lt_len_eq (lv : Nat) (l m : List It) : ∀ i, (∀ j, j < i → (ofL lv j l).length = (ofL lv j m).length) → (l.filter fun x => decide (dig x.k lv < i)).length = (m.filter fun x => decide (dig x.k lv < i)).length
  | 0, _ => by
    rw [List.filter_eq_nil_iff.2 (fun x _ => by simp), List.filter_eq_nil_iff.2 (fun x _ => by simp)]
  | i + 1, h => by rw [lt_succ_len, lt_succ_len, lt_len_eq lv l m i (fun j hj => h j (by omega)), h i (by omega)]
theorem trie_no (hk : k ≤ 9) (h : getA A r = some y) (h2 : y.kind = 2) (hS : TrieS A k y d left i sum) (hi : i < 9) (hbad : 4 ≤ i ∧ ¬ y.kids.getD i 0 = 0 ∨ (∃ n, MayP A k (y.kids.getD i 0) (d + 4 ^ (9 - k) * (i % 4)) (left - sum) n ∧ n < 0)) : MayP A (k + 1) r d left (-1) := by
  refine .inr ⟨rfl, fun m hT => ?_⟩
  obtain ⟨t1, t2, t3, t4⟩ := hT.trie h h2
  obtain ⟨l, q1, q2, q3, q4, q5, q6, q7⟩ := hS
  rcases hbad with ⟨h4, hne⟩ | ⟨n, hP, hn⟩
  · exact hne (t4 i h4 hi)
  · rcases hP with ⟨_, _, rfl⟩ | ⟨_, hP⟩
    · omega
    · by_cases hi4 : 4 ≤ i
      · refine hP [] ?_
        rw [t4 i hi4 hi]
        exact mayT_0 (by omega)
      · refine hP (ofL (9 - k) i m) ⟨t3 i (by omega), ?_, hT.2.2.1.filter _, ?_⟩
        · rw [Nat.mod_eq_of_lt (by omega), show 10 - k = 9 - k + 1 by omega]
          have := hT.2.1
          rw [show 10 - (k + 1) = 9 - k by omega] at this
          exact this.of
        · have e1 : (l.filter fun x => decide (dig x.k (9 - k) < i)) = l := List.filter_eq_self.2 fun x hx => by simpa using q1 x hx
          have e2 := lt_len_eq (9 - k) l m i (fun j hj => by
            have h1 := (q4 j hj (by omega)).size
            have h2 := (t3 j (by omega)).size
            omega)
          rw [e1] at e2
          have e3 := lt_succ_len (9 - k) i m
          have e4 := List.length_filter_le (fun x : It => decide (dig x.k (9 - k) < i + 1)) m
          have := hT.2.2.2
          omega
theorem trie_end (hk : k ≤ 9) (h : getA A r = some y) (h2 : y.kind = 2) (hb : bareH y = y) (hS : TrieS A k y d left 9 sum) : (¬ (sum < 2 ∨ ¬ sum = y.s) → MayP A (k + 1) r d left sum) ∧ (sum < 2 ∨ ¬ sum = y.s → MayP A (k + 1) r d left (-1)) := by
  obtain ⟨l, q1, q2, q3, q4, q5, q6, q7⟩ := hS
  constructor
  · intro hc
    have c1 : ¬ sum < 2 := fun e => hc (.inl e)
    have c2 : sum = y.s := Decidable.not_not.1 fun e => hc (.inr e)
    refine .inl ⟨l, ⟨(isH_trie (by omega)).2 ⟨y.gen, [y.k0, y.k1, y.k2, y.k3], rfl, ?_, fun j hj => ?_⟩, ?_, q3, by omega⟩, q6⟩
    · have := bareH_iff.1 hb
      rw [h2, ← c2, q6] at this
      refine h.trans (congrArg some (kids_ext (ks := [y.k0, y.k1, y.k2, y.k3]) this (fun j hj => ?_)))
      by_cases h4 : 4 ≤ j
      · rw [q5 j h4 hj, List.getD_eq_getElem?_getD, List.getElem?_eq_none (by simpa using h4)]; rfl
      · rcases j with _|_|_|_|j
        all_goals first | rfl | omega
    · have := q4 j (by omega) hj
      rcases j with _|_|_|_|j
      all_goals first | exact this | omega
    · rw [show 10 - (k + 1) = 9 - k by omega]; exact q2
  · intro hc
    refine .inr ⟨rfl, fun m hT => ?_⟩
    obtain ⟨t1, t2, t3, t4⟩ := hT.trie h h2
    have e : l.length = m.length := by
      have h1 := part_len (9 - k) l
      have h2 := part_len (9 - k) m
      have h3 : ∀ j, j < 4 → (ofL (9 - k) j l).length = (ofL (9 - k) j m).length := fun j hj => by
        have h1 := (q4 j (by omega) hj).size
        have h2 := (t3 j hj).size
        omega
      rw [h3 0 (by omega), h3 1 (by omega), h3 2 (by omega), h3 3 (by omega)] at h1
      omega
    omega
theorem MayT.clash (h : getA A r = some y) (h4 : y.kind = 4) (hT : MayT A 0 r d left l) : ∃ m, List.Perm m l ∧ Srt m ∧ 2 ≤ m.length ∧ m.length ≤ 9 ∧ y.s = m.length ∧ (∀ j x, m[j]? = some x → lfA A (y.kids.getD j 0) x) ∧ Fam 10 d m ∧ ∀ j, m.length ≤ j → j < 9 → y.kids.getD j 0 = 0 := by
  rcases hT.cases (getA_nz h) with ⟨x, rfl, hx⟩ | hl
  · have := ((lfA_iff h).1 hx).1; omega
  · obtain ⟨g, ks, m, e1, e2, e3, e4, e5, e6⟩ := (isH_clash hl).1 hT.1
    rw [h] at e5
    cases e5
    refine ⟨m, e1, e2, by rw [e1.length_eq]; exact hl, e3, rfl, fun j x hx => ?_, hT.2.1.perm e1, fun j h1 h9 => ?_⟩
    · have := lt_of_get hx
      rw [hN_kid (by omega)]; exact e6 j x hx
    · rw [hN_kid h9, List.getD_eq_getElem?_getD, List.getElem?_eq_none (by omega)]; rfl
/-- how the loop over leaves stands -/
def ClashS (A : Ar) (y : Node) (d i : Nat) (many : Int) : Prop := ∃ m : List It, Srt m ∧ many = m.length ∧ m.length ≤ i ∧ (∀ j x, m[j]? = some x → lfA A (y.kids.getD j 0) x) ∧ Fam 10 d m ∧ ∀ j, m.length ≤ j → j < i → y.kids.getD j 0 = 0
theorem clash_start : ClashS A y d 0 0 := ⟨[], List.Pairwise.nil, rfl, Nat.le_refl _, fun j x h => (by cases h), Fam.nil _ _, fun j _ h => absurd h (by omega)⟩
theorem clash_skip (hS : ClashS A y d i many) (h0 : y.kids.getD i 0 = 0) : ClashS A y d (i + 1) many := by
  obtain ⟨m, q1, q2, q3, q4, q5, q6⟩ := hS
  refine ⟨m, q1, q2, by omega, q4, q5, fun j h1 h2 => ?_⟩
  by_cases e : j = i
  · rw [e]; exact h0
  · exact q6 j h1 (by omega)
theorem clash_step {z : Node} (hS : ClashS A y d i many) (hi : (i : Int) = many) (hz : getA A (y.kids.getD i 0) = some z) (h3 : z.kind = 3) (hP : MayP A 0 (y.kids.getD i 0) d 1 1) (hlt : 0 < i → (getN A (y.kids.getD (i - 1) 0)).n < z.n) : ClashS A y d (i + 1) (many + 1) := by
  obtain ⟨m, q1, q2, q3, q4, q5, q6⟩ := hS
  have hmi : m.length = i := by omega
  rcases hP with ⟨l, ⟨m1, m2, m3, m4⟩, hl⟩ | ⟨h, _⟩
  · have hl1 : l.length = 1 := by omega
    obtain ⟨x, rfl⟩ := List.length_eq_one_iff.1 hl1
    have hx := isH_one.1 m1
    have hx2 := (lfA_iff hz).1 hx
    refine ⟨m ++ [x], ?_, by rw [q2, List.length_append]; rfl, by rw [List.length_append, List.length_singleton]; omega, fun j z' hj => ?_, fun z' hz' => ?_, fun j h1 h2 => absurd h1 (by rw [List.length_append, List.length_singleton]; omega)⟩
    · refine List.pairwise_append.2 ⟨q1, List.pairwise_singleton _ _, fun a ha b hb => ?_⟩
      rw [List.mem_singleton.1 hb]
      have hpos : 0 < m.length := List.length_pos_of_mem ha
      obtain ⟨t, ht⟩ := getSome (l := m) (i := m.length - 1) (by omega)
      have hl2 := q4 _ t ht
      rw [hmi] at hl2
      obtain ⟨g, hg⟩ := hl2.getN
      have h5 := hlt (by omega)
      rw [hg] at h5
      have h6 : t.k < x.k := by rw [← hx2.2.2.1]; exact h5
      obtain ⟨j, hj⟩ := List.getElem?_of_mem ha
      have hjl := lt_of_get hj
      by_cases e : j = m.length - 1
      · rw [e, ht] at hj; cases hj; exact h6
      · have := List.pairwise_iff_getElem.1 q1 j (m.length - 1) (by omega) (by omega) (by omega)
        rw [getElem_of hj, getElem_of ht] at this
        omega
    · by_cases e : j < m.length
      · rw [List.getElem?_append_left e] at hj; exact q4 j z' hj
      · have hjl := lt_of_get hj
        rw [List.length_append, List.length_singleton] at hjl
        obtain rfl : j = m.length := by omega
        rw [List.getElem?_append_right (Nat.le_refl _), Nat.sub_self] at hj
        cases hj
        rw [hmi]; exact hx
    · rcases List.mem_append.1 hz' with h | h
      · exact q5 z' h
      · exact m2 z' h
  · exact absurd h (by decide)
theorem clash_no (h : getA A r = some y) (h4 : y.kind = 4) (hS : ClashS A y d i many) (hi : i < 9) (hr0 : ¬ y.kids.getD i 0 = 0) (hbad : ¬ (i : Int) = many ∨ ¬ (getN A (y.kids.getD i 0)).kind = 3 ∨ (∃ n, MayP A 0 (y.kids.getD i 0) d 1 n ∧ ¬ n = 1) ∨ 0 < i ∧ (getN A (y.kids.getD i 0)).n ≤ (getN A (y.kids.getD (i - 1) 0)).n) : ∀ left l, ¬ MayT A 0 r d left l := by
  intro left l hT
  obtain ⟨m, t1, t2, t3, t4, t5, t6, t7, t8⟩ := hT.clash h h4
  obtain ⟨m', q1, q2, q3, q4, q5, q6⟩ := hS
  have him : i < m.length := Classical.byContradiction fun e => hr0 (t8 i (by omega) hi)
  obtain ⟨x, hx⟩ := getSome him
  have hlx := t6 i x hx
  obtain ⟨g, hg⟩ := hlx.getN
  rcases hbad with hb | hb | ⟨n, hP, hn⟩ | ⟨h0, hb⟩
  · have hz := q6 m'.length (Nat.le_refl _) (by omega)
    obtain ⟨z, hzm⟩ := getSome (l := m) (i := m'.length) (by omega)
    exact (t6 _ z hzm).nz hz
  · rw [hg] at hb; exact hb rfl
  · rcases hP with ⟨l', ⟨m1, _⟩, rfl⟩ | ⟨_, hP⟩
    · have := m1.size
      rw [hlx.size] at this
      exact hn this.symm
    · exact hP [x] ⟨isH_one.2 hlx, fun z hz => by rw [List.mem_singleton.1 hz]; exact t7 x (List.mem_of_getElem? hx), List.pairwise_singleton _ _, by simp⟩
  · obtain ⟨z, hzm⟩ := getSome (l := m) (i := i - 1) (by omega)
    obtain ⟨g2, hg2⟩ := (t6 _ z hzm).getN
    rw [hg, hg2] at hb
    have := List.pairwise_iff_getElem.1 t2 (i - 1) i (by omega) him (by omega)
    rw [getElem_of hzm, getElem_of hx] at this
    simp only [hN] at hb
    omega
theorem clash_end (h : getA A r = some y) (h4 : y.kind = 4) (hb : bareH y = y) (hS : ClashS A y d 9 many) : (¬ (many < 2 ∨ ¬ many = y.s) → many ≤ left → MayP A 0 r d left many) ∧ ((many < 2 ∨ ¬ many = y.s) ∨ left < many → ∀ l, ¬ MayT A 0 r d left l) := by
  obtain ⟨m, q1, q2, q3, q4, q5, q6⟩ := hS
  constructor
  · intro hc hle
    have c1 : ¬ many < 2 := fun e => hc (.inl e)
    have c2 : many = y.s := Decidable.not_not.1 fun e => hc (.inr e)
    refine .inl ⟨m, ⟨(isH_clash (by omega)).2 ⟨y.gen, y.kids.take m.length, m, List.Perm.refl _, q1, q3, ?_, ?_, fun j x hx => ?_⟩, q5, q1.ap, by omega⟩, q2⟩
    · rw [List.length_take]; simp [Node.kids]; omega
    · have := bareH_iff.1 hb
      rw [h4, ← c2, q2] at this
      refine h.trans (congrArg some (kids_ext (ks := y.kids.take m.length) this (fun j hj => ?_)))
      by_cases e : j < m.length
      · rw [List.getD_eq_getElem?_getD, List.getD_eq_getElem?_getD, List.getElem?_take_of_lt e]
      · rw [q6 j (by omega) hj, List.getD_eq_getElem?_getD, List.getElem?_eq_none (by rw [List.length_take]; omega)]; rfl
    · have e := lt_of_get hx
      rw [List.getD_eq_getElem?_getD, List.getElem?_take_of_lt e, ← List.getD_eq_getElem?_getD]
      exact q4 j x hx
  · intro hc l hT
    obtain ⟨m', t1, t2, t3, t4, t5, t6, t7, t8⟩ := hT.clash h h4
    have e1 : m.length = m'.length := by
      rcases Nat.lt_trichotomy m.length m'.length with e | e | e
      · obtain ⟨z, hz⟩ := getSome (l := m') (i := m.length) (by omega)
        exact absurd (q6 m.length (Nat.le_refl _) (by omega)) (t6 _ z hz).nz
      · exact e
      · obtain ⟨z, hz⟩ := getSome (l := m) (i := m'.length) (by omega)
        exact absurd (t8 m'.length (Nat.le_refl _) (by omega)) (q4 _ z hz).nz
    have e2 := t1.length_eq
    have := hT.2.2.2
    omega
end
/-- is a reference a table's? -/
def isTab (A : Ar) (r : Int) : Prop := AOk A ∧ ∃ l, IsH A 10 r l ∧ Ap l ∧ l.length ≤ 200
theorem isTab_iff {A : Ar} {r n : Int} (hA : AOk A) (h : MayP A 10 r 0 200 n) : 0 ≤ n ↔ isTab A r := by
  rcases h with ⟨l, h, rfl⟩ | ⟨rfl, h⟩
  · exact ⟨fun _ => ⟨hA, l, h.1, h.2.2.1, by have := h.2.2.2; omega⟩, fun _ => by omega⟩
  · refine ⟨fun e => absurd e (by decide), fun e => ?_⟩
    obtain ⟨_, l, h1, h2, h3⟩ := e
    exact absurd ⟨h1, fam_0 l, h2, by omega⟩ (h l)
noncomputable def isTabB (A : Ar) (r : Int) : Bool := @decide (isTab A r) (Classical.propDecidable _)
theorem isTabB_iff (A : Ar) (r : Int) : isTabB A r = true ↔ isTab A r := by unfold isTabB; exact @decide_eq_true_iff _ (Classical.propDecidable _)
theorem isTabB_yes {A : Ar} {r : Int} (h : isTab A r) : isTabB A r = true := (isTabB_iff A r).2 h
theorem isTabB_no {A : Ar} {r : Int} (h : ¬ isTab A r) : isTabB A r = false := by rw [Bool.eq_false_iff]; exact fun e => h ((isTabB_iff A r).1 e)
end Go.Proofs.YtbjmllnddanniaaGreat
set_option linter.unusedVariables false
set_option linter.unusedSimpArgs false
set_option maxRecDepth 4000
namespace Go.Proofs.YtbjmllnddanniaaGreat
open Go Go.XL
/-- what a node of leaves has, by its node -/
theorem clash_node {A : Ar} {r : Int} {L : List It} (h : Clash A r L) (hl : 2 ≤ L.length) : ∃ y m, getA A r = some y ∧ y.kind = 4 ∧ y.s = L.length ∧ List.Perm m L ∧ Srt m ∧ 2 ≤ m.length ∧ m.length ≤ 9 ∧ (∀ i x, m[i]? = some x → lfA A (y.kids.getD i 0) x) ∧ ∀ i, m.length ≤ i → i < 9 → y.kids.getD i 0 = 0 := by
  obtain ⟨g, ks, m, h1, h2, h3, h4, h5, h6⟩ := h
  refine ⟨_, m, h5, rfl, by rw [← h1.length_eq]; rfl, h1, h2, by rw [h1.length_eq]; exact hl, h3, fun i x hx => ?_, fun i hi h9 => ?_⟩
  · have := lt_of_get hx
    rw [hN_kid (by omega)]; exact h6 i x hx
  · rw [hN_kid h9, List.getD_eq_getElem?_getD, List.getElem?_eq_none (by omega)]; rfl
theorem Fam.key {lv : Nat} {key : Int} {L : List It} (h : Fam lv (hashOf key % 4 ^ lv) L) : Fam (lv + 1) (hashOf key % 4 ^ (lv + 1)) (ofL lv (dig key lv) L) := by
  rw [hash_succ]; exact h.of
end Go.Proofs.YtbjmllnddanniaaGreat
set_option linter.unusedVariables false
set_option linter.unusedSimpArgs false
namespace Go.Proofs.YtbjmllnddanniaaGreat
open Go Go.XL
theorem shl_1 (lv : Nat) (h : lv ≤ 10) : Value.int .i64 (IntKind.i64.wrap (1 * 2 ^ min (Int.toNat ((2 * lv : Nat) : Int)) IntKind.i64.bits)) = .int .i64 ((4 ^ lv : Nat) : Int) := by
  congr 1
  rw [show min (Int.toNat ((2 * lv : Nat) : Int)) IntKind.i64.bits = 2 * lv by simp [IntKind.bits]; omega]
  have h2 : ((2 : Int) ^ (2 * lv)) = ((4 ^ lv : Nat) : Int) := by rw [Int.natCast_pow, Int.pow_mul]; rfl
  have h3 : 4 ^ lv ≤ 1048576 := Nat.pow_le_pow_right (n := 4) (by decide) h
  rw [h2, Int.one_mul]
  generalize 4 ^ lv = q at h3 ⊢
  rw [IntKind.wrap_i64]
  omega
theorem shl_n (n lv : Nat) (hn : n < 4) (h : lv ≤ 10) : Value.int .i64 (IntKind.i64.wrap ((n : Int) * 2 ^ min (Int.toNat ((2 * lv : Nat) : Int)) IntKind.i64.bits)) = .int .i64 ((4 ^ lv * n : Nat) : Int) := by
  congr 1
  rw [show min (Int.toNat ((2 * lv : Nat) : Int)) IntKind.i64.bits = 2 * lv by simp [IntKind.bits]; omega]
  have h2 : ((2 : Int) ^ (2 * lv)) = ((4 ^ lv : Nat) : Int) := by rw [Int.natCast_pow, Int.pow_mul]; rfl
  have h3 : 4 ^ lv ≤ 4 ^ 10 := Nat.pow_le_pow_right (by decide) h
  have h5 : (4 : Nat) ^ 10 = 1048576 := rfl
  have h6 : n * 4 ^ lv ≤ 3 * 1048576 := Nat.mul_le_mul (by omega) (by omega)
  rw [h2, ← Int.natCast_mul, Nat.mul_comm (4 ^ lv) n, IntKind.wrap_i64]
  omega
theorem and_low (n lv : Nat) (h : lv ≤ 10) : Value.int .i64 (IntKind.i64.wrap ((BitVec.ofInt 64 (n : Int) &&& BitVec.ofInt 64 ((4 ^ lv - 1 : Nat) : Int)).toNat : Int)) = .int .i64 ((n % 4 ^ lv : Nat) : Int) := by
  congr 1
  have h3 : 4 ^ lv ≤ 4 ^ 10 := Nat.pow_le_pow_right (by decide) h
  have h4 : 0 < 4 ^ lv := Nat.pow_pos (by decide)
  have h5 : (4 : Nat) ^ 10 = 1048576 := rfl
  have e4 : 4 ^ lv = 2 ^ (2 * lv) := by rw [Nat.pow_mul]
  have h2 : (BitVec.ofInt 64 (n : Int) &&& BitVec.ofInt 64 ((4 ^ lv - 1 : Nat) : Int)).toNat = n % 4 ^ lv := by
    rw [BitVec.toNat_and, BitVec.ofInt_natCast, BitVec.ofInt_natCast, BitVec.toNat_ofNat, BitVec.toNat_ofNat, Nat.mod_eq_of_lt (show 4 ^ lv - 1 < 2 ^ 64 by omega), e4, Nat.and_two_pow_sub_one_eq_mod, ← e4]
    exact Nat.mod_mod_of_dvd n (by rw [e4]; exact Nat.pow_dvd_pow 2 (by omega))
  have h6 : n % 4 ^ lv < 4 ^ lv := Nat.mod_lt _ h4
  rw [h2, IntKind.wrap_i64]
  omega
theorem or_add (d lv n : Nat) (hd : d < 4 ^ lv) (hn : n < 4) (h : lv ≤ 10) : Value.int .i64 (IntKind.i64.wrap ((BitVec.ofInt 64 (d : Int) ||| BitVec.ofInt 64 ((4 ^ lv * n : Nat) : Int)).toNat : Int)) = .int .i64 ((d + 4 ^ lv * n : Nat) : Int) := by
  congr 1
  have h3 : 4 ^ lv ≤ 4 ^ 10 := Nat.pow_le_pow_right (by decide) h
  have h5 : (4 : Nat) ^ 10 = 1048576 := rfl
  have e4 : 4 ^ lv = 2 ^ (2 * lv) := by rw [Nat.pow_mul]
  have h6 : 4 ^ lv * n ≤ 1048576 * 3 := Nat.mul_le_mul (by omega) (by omega)
  have h2 : (BitVec.ofInt 64 (d : Int) ||| BitVec.ofInt 64 ((4 ^ lv * n : Nat) : Int)).toNat = d + 4 ^ lv * n := by
    rw [BitVec.toNat_or, BitVec.ofInt_natCast, BitVec.ofInt_natCast, BitVec.toNat_ofNat, BitVec.toNat_ofNat, Nat.mod_eq_of_lt (show d < 2 ^ 64 by omega), Nat.mod_eq_of_lt (show 4 ^ lv * n < 2 ^ 64 by omega)]
    rw [e4] at hd ⊢
    rw [Nat.mul_comm, ← Nat.shiftLeft_eq, Nat.or_comm, ← Nat.shiftLeft_add_eq_or_of_lt hd, Nat.add_comm]
  rw [h2, IntKind.wrap_i64]
  omega
theorem ne_leaf {y : Node} : (!eqL y.cells (leafH y).cells) = true ↔ ¬ leafH y = y := by
  rw [eqL_cells, Bool.not_eq_true', decide_eq_false_iff_not]
  exact ⟨fun h e => h e.symm, fun h e => h e.symm⟩
theorem ne_bare {y : Node} : (!eqL y.cells (bareH y).cells) = true ↔ ¬ bareH y = y := by
  rw [eqL_cells, Bool.not_eq_true', decide_eq_false_iff_not]
  exact ⟨fun h e => h e.symm, fun h e => h e.symm⟩
/-- what a call of may answers -/
def MayR (P : Int → Prop) (w : World) (v : Value) (w' : World) : Prop := ∃ n, v = .int .i64 n ∧ P n ∧ Sub w w'
set_option maxHeartbeats 1000000 in
theorem c_mayG (bf : Nat) (s : St) (C : Nat → Prop) (k lv : Nat) (hk : k ≤ 10) (hlv : lv = 10 - k) (r : Int) (hr : U64 r) (d : Nat) (left : Int) (h0 : 0 ≤ left) (w : World) (hF : Ft C (Ho bf s C) w)
    (hT : ∀ y, getA s.1 r = some y → y.kind = 2 → bareH y = y → ¬ k = 0 → 0 < left → ∀ w', Sub w w' → FC Tryz.prog 184 [.pointer (some ⟨bf, 0, none⟩), y.val, .int .i64 (lv : Int), .int .i64 (d : Int), .int .i64 left] w' (MayR (MayP s.1 k r d left) w'))
    (hC : ∀ y, getA s.1 r = some y → y.kind = 4 → bareH y = y → k = 0 → 0 < left → ∀ w', Sub w w' → FC Tryz.prog 185 [.pointer (some ⟨bf, 0, none⟩), y.val, .int .i64 (d : Int)] w' (MayR (fun n => (n ≤ left → MayP s.1 k r d left n) ∧ (left < n → MayP s.1 k r d left (-1))) w')) :
    FC Tryz.prog 110 [.pointer (some ⟨bf, 0, none⟩), .int .u64 r, .int .i64 (lv : Int), .int .i64 (d : Int), .int .i64 left] w (MayR (MayP s.1 k r d left) w) := by
  obtain ⟨hCb, na, fa, nc, fc, M, hbf, hnc, hfc, hA, hMb, hMC⟩ := hF.now
  obtain ⟨y, e, hgv, hgs, hgn⟩ := getV_form2 s.1 r
  have hA := hA.now
  refine FC.intro Tryz.func110 rfl Tryz.ntmps110 rfl ?_
  have S := Sub.refl w
  refine RC.seq ?_
  refine RC.region rfl ?_
  refine RL.ev (.assign rfl) rfl rfl ?_
  refine RL.nil (RC.back ?_)
  refine RC.seq ?_
  refine RC.seq ?_
  refine RC.region rfl ?_
  refine RL.ev (.move rfl) rfl rfl ?_
  refine RL.ev (.bin rfl rfl rfl) rfl rfl ?_
  refine RL.nil (RC.back ?_)
  refine RC.cond_dec rfl (fun h1 => ?_) (fun h1 => ?_)
  ·
    have hres : MayP s.1 k r d left 0 := (by rw [h1]; exact mayP_0 h0)
    refine RC.seq ?_
    refine RC.region rfl ?_
    refine RL.ev (.assign rfl) rfl rfl ?_
    refine RL.nil (RC.back ?_)
    refine RC.done (rs := [.tmp 10]) (vs := [_]) rfl rfl ⟨rfl, trivial⟩ ?_
    -- end 1
    exact ⟨_, rfl, hres, S⟩
  ·
    have hr0 := h1
    refine RC.skip (RC.back ?_)
    refine RC.seq ?_
    refine RC.region rfl ?_
    refine RL.ev (.move rfl) rfl rfl ?_
    refine RL.ev (.nilCheck rfl) rfl rfl ?_
    refine RL.ev (.field0 fo195_0 rfl) rfl rfl ?_
    refine RL.ev (.loadR (wvA na fa nc fc s.1) sh26 rfl (row_pref (xs := wvA na fa nc fc s.1) (ys := [.int .i64 s.2]) hbf) rfl) rfl rfl ?_
    refine RL.ev (.move rfl) rfl rfl ?_
    refine RL.call rfl ok125 (c_aGet s.1 na fa nc fc r hr w (hA.sub S)) rfl rfl ?_
    rintro _ w2 ⟨rfl, s3⟩
    have S := S.trans s3
    have hbf := hbf.sub s3
    refine RL.ev (.as (v' := .tuple #[y.val, .int .i64 e]) (.move rfl) (by rw [hgv])) rfl rfl ?_
    refine RL.ev (.extract rfl rfl) rfl rfl ?_
    refine RL.ev (.extract rfl rfl) rfl rfl ?_
    refine RL.alloc ze140 rfl rfl (fun b_11 w_11 e_11 z_11 hb_11 s_11 => ?_)
    have ge_11 := S.le e_11
    have nf__11 := hbf.ne e_11
    have S := S.trans s_11
    have hbf := hbf.sub s_11
    refine RL.store sh140 rfl rfl rfl hb_11 (by exact Nat.le_of_ble_eq_true rfl) (by rfl) rfl (fun w4 z4 hb_11 a4 => ?_)
    have S := S.upd a4 ge_11
    have hbf := hbf.upd a4 nf__11
    have hb_11 : Has w4 b_11 (y.cells) _ := hb_11.now (by kernel_rfl)
    refine RL.ev (.assign rfl) rfl rfl ?_
    refine RL.nil (RC.back ?_)
    refine RC.seq ?_
    refine RC.seq ?_
    refine RC.region rfl ?_
    refine RL.ev (.move rfl) rfl rfl ?_
    refine RL.ev (.bin rfl rfl rfl) rfl rfl ?_
    refine RL.ev (.move rfl) rfl rfl ?_
    refine RL.split 28 rfl (fun h5 => ?_) (fun h5 => ?_)
    ·
      have hres : MayP s.1 k r d left (-1) := mayP_bad hr0 (.inl (by cases hg : getA s.1 r with | none => rfl | some x => exact absurd (hgs x hg).2 h5))
      refine RL.off rfl rfl ?_
      refine RL.off rfl rfl ?_
      refine RL.ev (.pick_t rfl rfl) rfl rfl ?_
      refine RL.nil (RC.back ?_)
      refine RC.cond_t rfl ?_
      refine RC.seq ?_
      refine RC.region rfl ?_
      refine RL.ev (.assign rfl) rfl rfl ?_
      refine RL.nil (RC.back ?_)
      refine RC.done (rs := [.tmp 10]) (vs := [_]) rfl rfl ⟨rfl, trivial⟩ ?_
      -- end 2
      exact ⟨_, rfl, hres, S⟩
    ·
      have hy : getA s.1 r = some y := (by cases hg : getA s.1 r with | none => have := (hgn hg).2; omega | some x => rw [(hgs x hg).1])
      refine RL.ev (.move rfl) rfl rfl ?_
      refine RL.ev (.bin rfl rfl rfl) rfl rfl ?_
      refine RL.ev (.pick_f rfl rfl) rfl rfl ?_
      refine RL.nil (RC.back ?_)
      refine RC.cond_dec rfl (fun h6 => ?_) (fun h6 => ?_)
      ·
        have hres : MayP s.1 k r d left (-1) := mayP_bad hr0 (.inr h6)
        refine RC.seq ?_
        refine RC.region rfl ?_
        refine RL.ev (.assign rfl) rfl rfl ?_
        refine RL.nil (RC.back ?_)
        refine RC.done (rs := [.tmp 10]) (vs := [_]) rfl rfl ⟨rfl, trivial⟩ ?_
        -- end 3
        exact ⟨_, rfl, hres, S⟩
      ·
        have hl0 : 0 < left := (by omega)
        refine RC.skip (RC.back ?_)
        refine RC.seq ?_
        refine RC.region rfl ?_
        refine RL.ev (.field0 fo140_0 rfl) rfl rfl ?_
        refine RL.ev (.load1 sh3 rfl (hb_11.cell rfl)) rfl rfl ?_
        refine RL.ev (.field0 fo140_1 rfl) rfl rfl ?_
        refine RL.ev (.load1 sh3 rfl (hb_11.cell rfl)) rfl rfl ?_
        refine RL.ev (.field0 fo140_5 rfl) rfl rfl ?_
        refine RL.ev (.as (v' := .agg (y.kids.map u6).toArray) (.loadR (y.kids.map u6) sh138 rfl (Has.row_at (pre := [i6 y.kind, i6 y.gen, i6 y.n, i6 y.v, i6 y.s]) (mid := y.kids.map u6) (post := [i6 y.pre, i6 y.suf]) hb_11 rfl) rfl) (by rfl)) rfl rfl ?_
        refine RL.ev (.field0 fo140_4 rfl) rfl rfl ?_
        refine RL.ev (.load1 sh2 rfl (hb_11.cell rfl)) rfl rfl ?_
        refine RL.ev (.buildS (vs := [(0, i6 y.kind), (1, i6 y.gen), (5, .agg (y.kids.map u6).toArray), (4, i6 y.s)]) (cs := (bareH y).cells.toArray) ze140 pl140 rfl (by kernel_rfl)) rfl rfl ?_
        refine RL.alloc ze140 rfl rfl (fun b_13 w_13 e_13 z_13 hb_13 s_13 => ?_)
        have ge_13 := S.le e_13
        have nf__13 := hbf.ne e_13
        have n_11__13 := hb_11.ne e_13
        have S := S.trans s_13
        have hbf := hbf.sub s_13
        have hb_11 := hb_11.sub s_13
        refine RL.store sh140 rfl rfl rfl hb_13 (by exact Nat.le_of_ble_eq_true rfl) (by rfl) rfl (fun w7 z7 hb_13 a7 => ?_)
        have S := S.upd a7 ge_13
        have hbf := hbf.upd a7 nf__13
        have hb_11 := hb_11.upd a7 n_11__13
        have hb_13 : Has w7 b_13 ((bareH y).cells) _ := hb_13.now (by kernel_rfl)
        refine RL.nil (RC.back ?_)
        refine RC.seq ?_
        refine RC.seq ?_
        refine RC.region rfl ?_
        refine RL.ev (.field0 fo140_0 rfl) rfl rfl ?_
        refine RL.ev (.load1 sh3 rfl (hb_11.cell rfl)) rfl rfl ?_
        refine RL.nil (RC.back ?_)
        refine RC.block ?_
        refine RC.seq ?_
        refine RC.region rfl ?_
        refine RL.ev (.bin rfl rfl rfl) rfl rfl ?_
        refine RL.ev (.assign rfl) rfl rfl ?_
        refine RL.nil (RC.back ?_)
        refine RC.cond_dec rfl (fun h8 => ?_) (fun h8 => ?_)
        ·
          have h3 := h8
          refine RC.seq ?_
          refine RC.region rfl ?_
          refine RL.ev (.field0 fo140_0 rfl) rfl rfl ?_
          refine RL.ev (.load1 sh3 rfl (hb_11.cell rfl)) rfl rfl ?_
          refine RL.ev (.field0 fo140_1 rfl) rfl rfl ?_
          refine RL.ev (.load1 sh3 rfl (hb_11.cell rfl)) rfl rfl ?_
          refine RL.ev (.field0 fo140_2 rfl) rfl rfl ?_
          refine RL.ev (.load1 sh2 rfl (hb_11.cell rfl)) rfl rfl ?_
          refine RL.ev (.field0 fo140_3 rfl) rfl rfl ?_
          refine RL.ev (.load1 sh2 rfl (hb_11.cell rfl)) rfl rfl ?_
          refine RL.ev (.buildS ze140 pl140 rfl rfl) rfl rfl ?_
          refine RL.store sh140 rfl rfl rfl hb_13 (by exact Nat.le_of_ble_eq_true rfl) (by rfl) rfl (fun w9 z9 hb_13 a9 => ?_)
          have S := S.upd a9 ge_13
          have hbf := hbf.upd a9 nf__13
          have hb_11 := hb_11.upd a9 n_11__13
          have hb_13 : Has w9 b_13 ((leafH y).cells) _ := hb_13.now (by kernel_rfl)
          refine RL.nil (RC.back ?_)
          refine RC.seq ?_
          refine RC.seq ?_
          refine RC.draw rfl mxo (by kernel_rfl) ?_
          refine RQ.ev (.loadR (y.cells) sh140 rfl hb_11.row rfl) rfl rfl ?_
          refine RQ.ev (.loadR ((leafH y).cells) sh140 rfl hb_13.row rfl) rfl rfl ?_
          refine RQ.ev (.neS (xs := y.cells) (ys := (leafH y).cells) fk140 eg140 sh140 rfl rfl rfl rfl rfl) rfl rfl ?_
          refine RQ.ev (.move rfl) rfl rfl ?_
          refine RQ.splitB 57 rfl (fun h10 => ?_) (fun h10 => ?_)
          ·
            have hres : MayP s.1 k r d left (-1) := (mayP_leaf (k := k) (d := d) hr0 hy h3 hl0).2 (fun q => ne_leaf.1 h10 q.1)
            refine RQ.off rfl rfl ?_
            refine RQ.off rfl rfl ?_
            refine RQ.off rfl rfl ?_
            refine RQ.off rfl rfl ?_
            refine RQ.off rfl rfl ?_
            refine RQ.off rfl rfl ?_
            refine RQ.off rfl rfl ?_
            refine RQ.off rfl rfl ?_
            refine RQ.off rfl rfl ?_
            refine RQ.off rfl rfl ?_
            refine RQ.ev (.pick_t rfl rfl) rfl rfl ?_
            refine RQ.nil (fun w11 s12 => RC.back ?_)
            have S := S.trans s12
            have hbf := hbf.sub s12
            have hb_11 := hb_11.sub s12
            have hb_13 := hb_13.sub s12
            refine RC.cond_t rfl ?_
            refine RC.seq ?_
            refine RC.region rfl ?_
            refine RL.ev (.assign rfl) rfl rfl ?_
            refine RL.nil (RC.back ?_)
            refine RC.done (rs := [.tmp 10]) (vs := [_]) rfl rfl ⟨rfl, trivial⟩ ?_
            -- end 4
            exact ⟨_, rfl, hres, S⟩
          ·
            have hlf : leafH y = y := Decidable.not_not.1 (fun q => by have h2 := h10; rw [ne_leaf.2 q] at h2; cases h2)
            refine RQ.ev (.field0 fo140_2 rfl) rfl rfl ?_
            refine RQ.ev (.load1 sh2 rfl (hb_11.cell rfl)) rfl rfl ?_
            refine RQ.call rfl ok183 (fun w' s' => c_hash y.n w') rfl rfl ?_
            refine RQ.ev (.move rfl) rfl rfl ?_
            refine RQ.ev (.as (.bin rfl rfl rfl) (wi64 (y := ((2 * lv : Nat) : Int)) (by omega) (by omega))) rfl rfl ?_
            refine RQ.ev (.as (v' := .int .i64 ((4 ^ lv : Nat) : Int)) (.shl rfl rfl (by omega)) (by exact shl_1 lv (by omega))) rfl rfl ?_
            refine RQ.ev (.as (v' := .int .i64 ((4 ^ lv - 1 : Nat) : Int)) (.bin rfl rfl rfl) (by have h3 : 4 ^ lv ≤ 4 ^ 10 := Nat.pow_le_pow_right (by decide) (by omega); have h4 : 0 < 4 ^ lv := Nat.pow_pos (by decide); have h5 : (4 : Nat) ^ 10 = 1048576 := rfl; congr 1; rw [IntKind.wrap_i64]; omega)) rfl rfl ?_
            refine RQ.ev (.as (v' := .int .i64 ((hashOf y.n % 4 ^ lv : Nat) : Int)) (.bin rfl rfl rfl) (by exact and_low _ lv (by omega))) rfl rfl ?_
            refine RQ.ev (.move rfl) rfl rfl ?_
            refine RQ.ev (.bin rfl rfl rfl) rfl rfl ?_
            refine RQ.ev (.pick_f rfl rfl) rfl rfl ?_
            refine RQ.nil (fun w13 s14 => RC.back ?_)
            have S := S.trans s14
            have hbf := hbf.sub s14
            have hb_11 := hb_11.sub s14
            have hb_13 := hb_13.sub s14
            refine RC.cond_dec rfl (fun h15 => ?_) (fun h15 => ?_)
            ·
              have hres : MayP s.1 k r d left (-1) := (mayP_leaf (k := k) (d := d) hr0 hy h3 hl0).2 (fun q => by have h2 := q.2; rw [← hlv] at h2; rw [h2] at h15; exact h15 rfl)
              refine RC.seq ?_
              refine RC.region rfl ?_
              refine RL.ev (.assign rfl) rfl rfl ?_
              refine RL.nil (RC.back ?_)
              refine RC.done (rs := [.tmp 10]) (vs := [_]) rfl rfl ⟨rfl, trivial⟩ ?_
              -- end 5
              exact ⟨_, rfl, hres, S⟩
            ·
              have hres : MayP s.1 k r d left 1 := (mayP_leaf (k := k) (d := d) hr0 hy h3 hl0).1 ⟨hlf, by rw [← hlv]; omega⟩
              refine RC.skip (RC.back ?_)
              refine RC.seq ?_
              refine RC.region rfl ?_
              refine RL.ev (.assign rfl) rfl rfl ?_
              refine RL.nil (RC.back ?_)
              refine RC.done (rs := [.tmp 10]) (vs := [_]) rfl rfl ⟨rfl, trivial⟩ ?_
              -- end 6
              exact ⟨_, rfl, hres, S⟩
        ·
          have h3 := h8
          refine RC.seq ?_
          refine RC.region rfl ?_
          refine RL.ev (.bin rfl rfl rfl) rfl rfl ?_
          refine RL.ev (.assign rfl) rfl rfl ?_
          refine RL.nil (RC.back ?_)
          refine RC.cond_dec rfl (fun h16 => ?_) (fun h16 => ?_)
          ·
            have h2 := h16
            refine RC.seq ?_
            refine RC.seq ?_
            refine RC.region rfl ?_
            refine RL.ev (.move rfl) rfl rfl ?_
            refine RL.ev (.bin rfl rfl rfl) rfl rfl ?_
            refine RL.ev (.move rfl) rfl rfl ?_
            refine RL.split 73 rfl (fun h17 => ?_) (fun h17 => ?_)
            ·
              have hres : MayP s.1 k r d left (-1) := mayP_odd hr0 hy h3 (.inr (.inl ⟨h2, by have := h17; omega⟩))
              refine RL.off rfl rfl ?_
              refine RL.off rfl rfl ?_
              refine RL.off rfl rfl ?_
              refine RL.ev (.pick_t rfl rfl) rfl rfl ?_
              refine RL.nil (RC.back ?_)
              refine RC.cond_t rfl ?_
              refine RC.seq ?_
              refine RC.region rfl ?_
              refine RL.ev (.assign rfl) rfl rfl ?_
              refine RL.nil (RC.back ?_)
              refine RC.done (rs := [.tmp 10]) (vs := [_]) rfl rfl ⟨rfl, trivial⟩ ?_
              -- end 7
              exact ⟨_, rfl, hres, S⟩
            ·
              have hk0 : ¬ k = 0 := (by have := h17; omega)
              refine RL.ev (.loadR (y.cells) sh140 rfl hb_11.row rfl) rfl rfl ?_
              refine RL.ev (.loadR ((bareH y).cells) sh140 rfl hb_13.row rfl) rfl rfl ?_
              refine RL.ev (.neS (xs := y.cells) (ys := (bareH y).cells) fk140 eg140 sh140 rfl rfl rfl rfl rfl) rfl rfl ?_
              refine RL.ev (.pick_f rfl rfl) rfl rfl ?_
              refine RL.nil (RC.back ?_)
              refine RC.cond rfl (fun h18 => ?_) (fun h18 => ?_)
              ·
                have hres : MayP s.1 k r d left (-1) := mayP_odd hr0 hy h3 (.inl (ne_bare.1 h18))
                refine RC.seq ?_
                refine RC.region rfl ?_
                refine RL.ev (.assign rfl) rfl rfl ?_
                refine RL.nil (RC.back ?_)
                refine RC.done (rs := [.tmp 10]) (vs := [_]) rfl rfl ⟨rfl, trivial⟩ ?_
                -- end 8
                exact ⟨_, rfl, hres, S⟩
              ·
                have hbr : bareH y = y := Decidable.not_not.1 (fun q => by have h2 := h18; rw [ne_bare.2 q] at h2; cases h2)
                refine RC.skip (RC.back ?_)
                refine RC.seq ?_
                refine RC.region rfl ?_
                refine RL.ev (.move rfl) rfl rfl ?_
                refine RL.ev (.loadR (y.cells) sh140 rfl (hb_11.row) rfl) rfl rfl ?_
                refine RL.ev (.move rfl) rfl rfl ?_
                refine RL.ev (.move rfl) rfl rfl ?_
                refine RL.ev (.move rfl) rfl rfl ?_
                refine RL.call rfl ok184 (hT y hy h2 hbr hk0 hl0 w7 S) rfl rfl ?_
                rintro _ w19 ⟨n, rfl, hres, s20⟩
                have S := S.trans s20
                have hbf := hbf.sub s20
                have hb_11 := hb_11.sub s20
                have hb_13 := hb_13.sub s20
                refine RL.ev (.assign rfl) rfl rfl ?_
                refine RL.nil (RC.back ?_)
                refine RC.done (rs := [.tmp 10]) (vs := [_]) rfl rfl ⟨rfl, trivial⟩ ?_
                -- end 9
                exact ⟨_, rfl, hres, S⟩
          ·
            have h2 := h16
            refine RC.seq ?_
            refine RC.region rfl ?_
            refine RL.ev (.bin rfl rfl rfl) rfl rfl ?_
            refine RL.ev (.assign rfl) rfl rfl ?_
            refine RL.nil (RC.back ?_)
            refine RC.cond_dec rfl (fun h21 => ?_) (fun h21 => ?_)
            ·
              have h4 := h21
              refine RC.seq ?_
              refine RC.seq ?_
              refine RC.region rfl ?_
              refine RL.ev (.move rfl) rfl rfl ?_
              refine RL.ev (.bin rfl rfl rfl) rfl rfl ?_
              refine RL.ev (.move rfl) rfl rfl ?_
              refine RL.split 88 rfl (fun h22 => ?_) (fun h22 => ?_)
              ·
                have hres : MayP s.1 k r d left (-1) := mayP_odd hr0 hy h3 (.inr (.inr (.inl ⟨h4, by have := h22; omega⟩)))
                refine RL.off rfl rfl ?_
                refine RL.off rfl rfl ?_
                refine RL.off rfl rfl ?_
                refine RL.ev (.pick_t rfl rfl) rfl rfl ?_
                refine RL.nil (RC.back ?_)
                refine RC.cond_t rfl ?_
                refine RC.seq ?_
                refine RC.region rfl ?_
                refine RL.ev (.assign rfl) rfl rfl ?_
                refine RL.nil (RC.back ?_)
                refine RC.done (rs := [.tmp 10]) (vs := [_]) rfl rfl ⟨rfl, trivial⟩ ?_
                -- end 10
                exact ⟨_, rfl, hres, S⟩
              ·
                have hk0 : k = 0 := (by have := h22; omega)
                refine RL.ev (.loadR (y.cells) sh140 rfl hb_11.row rfl) rfl rfl ?_
                refine RL.ev (.loadR ((bareH y).cells) sh140 rfl hb_13.row rfl) rfl rfl ?_
                refine RL.ev (.neS (xs := y.cells) (ys := (bareH y).cells) fk140 eg140 sh140 rfl rfl rfl rfl rfl) rfl rfl ?_
                refine RL.ev (.pick_f rfl rfl) rfl rfl ?_
                refine RL.nil (RC.back ?_)
                refine RC.cond rfl (fun h23 => ?_) (fun h23 => ?_)
                ·
                  have hres : MayP s.1 k r d left (-1) := mayP_odd hr0 hy h3 (.inl (ne_bare.1 h23))
                  refine RC.seq ?_
                  refine RC.region rfl ?_
                  refine RL.ev (.assign rfl) rfl rfl ?_
                  refine RL.nil (RC.back ?_)
                  refine RC.done (rs := [.tmp 10]) (vs := [_]) rfl rfl ⟨rfl, trivial⟩ ?_
                  -- end 11
                  exact ⟨_, rfl, hres, S⟩
                ·
                  have hbr : bareH y = y := Decidable.not_not.1 (fun q => by have h2 := h23; rw [ne_bare.2 q] at h2; cases h2)
                  refine RC.skip (RC.back ?_)
                  refine RC.seq ?_
                  refine RC.region rfl ?_
                  refine RL.ev (.move rfl) rfl rfl ?_
                  refine RL.ev (.loadR (y.cells) sh140 rfl (hb_11.row) rfl) rfl rfl ?_
                  refine RL.ev (.move rfl) rfl rfl ?_
                  refine RL.call rfl ok185 (hC y hy h4 hbr hk0 hl0 w7 S) rfl rfl ?_
                  rintro _ w24 ⟨n, rfl, hres2, s25⟩
                  have S := S.trans s25
                  have hbf := hbf.sub s25
                  have hb_11 := hb_11.sub s25
                  have hb_13 := hb_13.sub s25
                  refine RL.ev (.assign rfl) rfl rfl ?_
                  refine RL.nil (RC.back ?_)
                  refine RC.seq ?_
                  refine RC.region rfl ?_
                  refine RL.ev (.move rfl) rfl rfl ?_
                  refine RL.ev (.move rfl) rfl rfl ?_
                  refine RL.ev (.bin rfl rfl rfl) rfl rfl ?_
                  refine RL.nil (RC.back ?_)
                  refine RC.cond_dec rfl (fun h26 => ?_) (fun h26 => ?_)
                  ·
                    have hres : MayP s.1 k r d left n := hres2.1 h26
                    refine RC.seq ?_
                    refine RC.region rfl ?_
                    refine RL.ev (.move rfl) rfl rfl ?_
                    refine RL.ev (.assign rfl) rfl rfl ?_
                    refine RL.nil (RC.back ?_)
                    refine RC.done (rs := [.tmp 10]) (vs := [_]) rfl rfl ⟨rfl, trivial⟩ ?_
                    -- end 12
                    exact ⟨_, rfl, hres, S⟩
                  ·
                    have hres : MayP s.1 k r d left (-1) := hres2.2 (by have := h26; omega)
                    refine RC.skip (RC.back ?_)
                    refine RC.seq ?_
                    refine RC.region rfl ?_
                    refine RL.ev (.assign rfl) rfl rfl ?_
                    refine RL.nil (RC.back ?_)
                    refine RC.done (rs := [.tmp 10]) (vs := [_]) rfl rfl ⟨rfl, trivial⟩ ?_
                    -- end 13
                    exact ⟨_, rfl, hres, S⟩
            ·
              have h4 := h21
              have hres : MayP s.1 k r d left (-1) := mayP_odd hr0 hy h3 (.inr (.inr (.inr ⟨h2, h4⟩)))
              refine RC.skip (RC.back ?_)
              refine RC.seq ?_
              refine RC.region rfl ?_
              refine RL.ev (.assign rfl) rfl rfl ?_
              refine RL.nil (RC.back ?_)
              refine RC.done (rs := [.tmp 10]) (vs := [_]) rfl rfl ⟨rfl, trivial⟩ ?_
              -- end 14
              exact ⟨_, rfl, hres, S⟩
end Go.Proofs.YtbjmllnddanniaaGreat
set_option linter.unusedVariables false
set_option linter.unusedSimpArgs false
namespace Go.Proofs.YtbjmllnddanniaaGreat
open Go Go.XL
theorem dig_bound {d q m : Nat} (hd : d < q) (hm : m < 4) : d + q * m < q * 4 := by
  have : q * m ≤ q * 3 := Nat.mul_le_mul_left q (by omega)
  omega
theorem kid_get {y : Node} {i : Nat} {x : Int} (h : y.kids[i]? = some x) : y.kids.getD i 0 = x := by rw [List.getD_eq_getElem?_getD, h]; rfl
set_option maxHeartbeats 1000000 in
theorem c_trie (bf : Nat) (s : St) (C : Nat → Prop) (k lv : Nat) (hk : k ≤ 9) (hlv : lv = 9 - k) (r : Int) (y : Node) (hy : getA s.1 r = some y) (hyo : y.ok) (hy2 : y.kind = 2) (hyb : bareH y = y) (d : Nat) (hd : d < 4 ^ lv) (left : Int) (h0 : 0 ≤ left) (hl : left ≤ 1000000)
    (ih : ∀ (r' : Int) (d' : Nat) (left' : Int) (w' : World), U64 r' → d' < 4 ^ (lv + 1) → 0 ≤ left' → left' ≤ 1000000 → Ft C (Ho bf s C) w' → FC Tryz.prog 110 [.pointer (some ⟨bf, 0, none⟩), .int .u64 r', .int .i64 ((lv + 1 : Nat) : Int), .int .i64 (d' : Int), .int .i64 left'] w' (MayR (MayP s.1 k r' d' left') w'))
    (w : World) (hF : Ft C (Ho bf s C) w) :
    FC Tryz.prog 184 [.pointer (some ⟨bf, 0, none⟩), y.val, .int .i64 (lv : Int), .int .i64 (d : Int), .int .i64 left] w (MayR (MayP s.1 (k + 1) r d left) w) := by
  have hG : Ft C (Ho bf s C) w := hF
  refine FC.intro Tryz.func184 rfl Tryz.ntmps184 rfl ?_
  have S := Sub.refl w
  refine RC.seq ?_
  refine RC.region rfl ?_
  refine RL.box rfl rfl rfl (fun b_6 w_6 e_6 z_6 hb_6 s_6 => ?_)
  have ge_6 := S.le e_6
  have S := S.trans s_6
  have hb_6 : Has w_6 b_6 (y.cells) _ := hb_6
  refine RL.ev (.assign rfl) rfl rfl ?_
  refine RL.nil (RC.back ?_)
  refine RC.seq ?_
  refine RC.region rfl ?_
  refine RL.ev (.assign rfl) rfl rfl ?_
  refine RL.nil (RC.back ?_)
  refine RC.seq ?_
  refine RC.seq ?_
  refine RC.region rfl ?_
  refine RL.ev (.field0 fo140_5 rfl) rfl rfl ?_
  refine RL.ev (.as (v' := .agg (y.kids.map u6).toArray) (.loadR (y.kids.map u6) sh138 rfl (Has.row_at (pre := [i6 y.kind, i6 y.gen, i6 y.n, i6 y.v, i6 y.s]) (mid := y.kids.map u6) (post := [i6 y.pre, i6 y.suf]) hb_6 rfl) rfl) (by rfl)) rfl rfl ?_
  refine RL.ev (.move rfl) rfl rfl ?_
  refine RL.nil (RC.back ?_)
  refine RC.block ?_
  refine RC.loop (α := Nat × Int) (fun x => [(0, .pointer (some ⟨bf, 0, none⟩)), (2, .int .i64 (lv : Int)), (3, .int .i64 (d : Int)), (4, .int .i64 left), (6, .pointer (some ⟨b_6, 0, none⟩)), (11, .int .i64 x.2), (16, .agg (y.kids.map u6).toArray), (17, .int .i64 (x.1 : Int))]) (fun x w1 => x.1 ≤ 9 ∧ TrieS s.1 k y d left x.1 x.2 ∧ Has w1 b_6 y.cells 140 ∧ Sub w w1) (fun x => 9 - x.1) (0, 0) (keep_of (by repeat (first | exact trivial | refine And.intro rfl ?_))) (⟨Nat.zero_le _, trie_start h0, hb_6, S⟩) (fun x w1 hJ => ?_)
  obtain ⟨i, sum⟩ := x; obtain ⟨hi, hS, hb_6, S⟩ := hJ; simp only [] at hi hS; have hsr : 0 ≤ sum ∧ sum ≤ left := (by obtain ⟨l, _, _, _, _, _, q6, q7⟩ := hS; exact ⟨by omega, q7⟩)
  refine RC.seq ?_
  refine RC.region rfl ?_
  refine RL.ev (.bin rfl rfl rfl) rfl rfl ?_
  refine RL.nil (RC.back ?_)
  refine RC.seq ?_
  refine RC.cond_dec rfl (fun h2 => ?_) (fun h2 => ?_)
  ·
    obtain ⟨x, hx⟩ := getSome (l := y.kids) (i := i) (by show i < 9; omega)
    have hkx := kid_get hx
    refine RC.skip (RC.back ?_)
    refine RC.seq ?_
    refine RC.block ?_
    refine RC.seq ?_
    refine RC.region rfl ?_
    refine RL.ev (.move rfl) rfl rfl ?_
    refine RL.ev (.index1 ar138 sh31 rfl rfl (by omega) ((by simp [hx] : (y.kids.map u6).toArray[(i : Int).toNat * 1]? = some (u6 x)))) rfl rfl ?_
    refine RL.ev (.assign rfl) rfl rfl ?_
    refine RL.ev (.assign rfl) rfl rfl ?_
    refine RL.nil (RC.back ?_)
    refine RC.seq ?_
    refine RC.seq ?_
    refine RC.region rfl ?_
    refine RL.ev (.move rfl) rfl rfl ?_
    refine RL.ev (.bin rfl rfl rfl) rfl rfl ?_
    refine RL.ev (.move rfl) rfl rfl ?_
    refine RL.split 23 rfl (fun h3 => ?_) (fun h3 => ?_)
    ·
      have h23 := h3
      refine RL.ev (.move rfl) rfl rfl ?_
      refine RL.ev (.bin rfl rfl rfl) rfl rfl ?_
      refine RL.ev (.pick_t rfl rfl) rfl rfl ?_
      refine RL.nil (RC.back ?_)
      refine RC.cond_dec rfl (fun h4 => ?_) (fun h4 => ?_)
      ·
        have hres : MayP s.1 (k + 1) r d left (-1) := trie_no hk hy hy2 hS (by omega) (.inl ⟨by omega, by rw [hkx]; exact h4⟩)
        refine RC.seq ?_
        refine RC.region rfl ?_
        refine RL.ev (.assign rfl) rfl rfl ?_
        refine RL.nil (RC.back ?_)
        refine RC.done (rs := [.tmp 10]) (vs := [_]) rfl rfl ⟨rfl, trivial⟩ ?_
        -- end 1
        exact ⟨_, rfl, hres, S⟩
      ·
        have h26 : x = 0 := Decidable.not_not.1 h4
        refine RC.skip (RC.back ?_)
        refine RC.seq ?_
        refine RC.region rfl ?_
        refine RL.ev (.move rfl) rfl rfl ?_
        refine RL.ev (.move rfl) rfl rfl ?_
        refine RL.ev (.move rfl) rfl rfl ?_
        refine RL.ev (.as (.bin rfl rfl rfl) (wi64 (y := ((lv + 1 : Nat) : Int)) (by omega) (by omega))) rfl rfl ?_
        refine RL.ev (.move rfl) rfl rfl ?_
        refine RL.ev (.move rfl) rfl rfl ?_
        refine RL.ev (.as (v' := .int .i64 ((i % 4 : Nat) : Int)) (.rem rfl rfl (by decide)) (by congr 1)) rfl rfl ?_
        refine RL.ev (.move rfl) rfl rfl ?_
        refine RL.ev (.as (.bin rfl rfl rfl) (wi64 (y := ((2 * lv : Nat) : Int)) (by omega) (by omega))) rfl rfl ?_
        refine RL.ev (.as (v' := .int .i64 ((4 ^ lv * (i % 4) : Nat) : Int)) (.shl rfl rfl (by omega)) (by exact shl_n _ lv (Nat.mod_lt _ (by decide)) (by omega))) rfl rfl ?_
        refine RL.ev (.as (v' := .int .i64 ((d + 4 ^ lv * (i % 4) : Nat) : Int)) (.bin rfl rfl rfl) (by exact or_add d lv _ hd (Nat.mod_lt _ (by decide)) (by omega))) rfl rfl ?_
        refine RL.ev (.move rfl) rfl rfl ?_
        refine RL.ev (.move rfl) rfl rfl ?_
        refine RL.ev (.as (.bin rfl rfl rfl) (wi64 (y := left - sum) (by rfl) (by omega))) rfl rfl ?_
        refine RL.call rfl ok110 (ih x (d + 4 ^ lv * (i % 4)) (left - sum) w1 (hyo.kids x (List.mem_of_getElem? hx)) (by rw [Nat.pow_succ]; exact dig_bound hd (Nat.mod_lt _ (by decide))) (by omega) (by omega) (hG.sub S)) rfl rfl ?_
        rintro _ w5 ⟨n, rfl, hP, s6⟩
        have S := S.trans s6
        have hb_6 := hb_6.sub s6
        have hPr := hP.rng (by omega)
        rw [hlv] at hP
        refine RL.ev (.assign rfl) rfl rfl ?_
        refine RL.nil (RC.back ?_)
        refine RC.seq ?_
        refine RC.seq ?_
        refine RC.region rfl ?_
        refine RL.ev (.move rfl) rfl rfl ?_
        refine RL.ev (.bin rfl rfl rfl) rfl rfl ?_
        refine RL.nil (RC.back ?_)
        refine RC.cond_dec rfl (fun h7 => ?_) (fun h7 => ?_)
        ·
          have hres : MayP s.1 (k + 1) r d left (-1) := trie_no hk hy hy2 hS (by omega) (.inr ⟨n, by rw [hkx]; exact hP, h7⟩)
          refine RC.seq ?_
          refine RC.region rfl ?_
          refine RL.ev (.assign rfl) rfl rfl ?_
          refine RL.nil (RC.back ?_)
          refine RC.done (rs := [.tmp 10]) (vs := [_]) rfl rfl ⟨rfl, trivial⟩ ?_
          -- end 2
          exact ⟨_, rfl, hres, S⟩
        ·
          have hn0 : 0 ≤ n := (by omega)
          refine RC.skip (RC.back ?_)
          refine RC.region rfl ?_
          refine RL.ev (.move rfl) rfl rfl ?_
          refine RL.ev (.move rfl) rfl rfl ?_
          refine RL.ev (.as (.bin rfl rfl rfl) (wi64 (y := sum + n) (by rfl) (by omega))) rfl rfl ?_
          refine RL.ev (.assign rfl) rfl rfl ?_
          refine RL.nil (RC.back ?_)
          refine RC.region rfl ?_
          refine RL.ev (.as (.bin rfl rfl rfl) (wi64 (y := ((i + 1 : Nat) : Int)) (by omega) (by omega))) rfl rfl ?_
          refine RL.ev (.move rfl) rfl rfl ?_
          exact RL.nil (fun a ka => ⟨(i + 1, sum + n), ⟨by omega, trie_step hk (hlv ▸ hd) hS (by omega) (fun h => by rw [hkx]; first | exact h26 | omega) (by rw [hkx]; exact hP) hn0, hb_6, S⟩, by omega, ka.keep (keep_of (by repeat (first | exact trivial | refine And.intro rfl ?_)))⟩)
    ·
      have h23 := h3
      refine RL.off rfl rfl ?_
      refine RL.off rfl rfl ?_
      refine RL.ev (.pick_f rfl rfl) rfl rfl ?_
      refine RL.nil (RC.back ?_)
      refine RC.cond_f rfl ?_
      refine RC.skip (RC.back ?_)
      refine RC.seq ?_
      refine RC.region rfl ?_
      refine RL.ev (.move rfl) rfl rfl ?_
      refine RL.ev (.move rfl) rfl rfl ?_
      refine RL.ev (.move rfl) rfl rfl ?_
      refine RL.ev (.as (.bin rfl rfl rfl) (wi64 (y := ((lv + 1 : Nat) : Int)) (by omega) (by omega))) rfl rfl ?_
      refine RL.ev (.move rfl) rfl rfl ?_
      refine RL.ev (.move rfl) rfl rfl ?_
      refine RL.ev (.as (v' := .int .i64 ((i % 4 : Nat) : Int)) (.rem rfl rfl (by decide)) (by congr 1)) rfl rfl ?_
      refine RL.ev (.move rfl) rfl rfl ?_
      refine RL.ev (.as (.bin rfl rfl rfl) (wi64 (y := ((2 * lv : Nat) : Int)) (by omega) (by omega))) rfl rfl ?_
      refine RL.ev (.as (v' := .int .i64 ((4 ^ lv * (i % 4) : Nat) : Int)) (.shl rfl rfl (by omega)) (by exact shl_n _ lv (Nat.mod_lt _ (by decide)) (by omega))) rfl rfl ?_
      refine RL.ev (.as (v' := .int .i64 ((d + 4 ^ lv * (i % 4) : Nat) : Int)) (.bin rfl rfl rfl) (by exact or_add d lv _ hd (Nat.mod_lt _ (by decide)) (by omega))) rfl rfl ?_
      refine RL.ev (.move rfl) rfl rfl ?_
      refine RL.ev (.move rfl) rfl rfl ?_
      refine RL.ev (.as (.bin rfl rfl rfl) (wi64 (y := left - sum) (by rfl) (by omega))) rfl rfl ?_
      refine RL.call rfl ok110 (ih x (d + 4 ^ lv * (i % 4)) (left - sum) w1 (hyo.kids x (List.mem_of_getElem? hx)) (by rw [Nat.pow_succ]; exact dig_bound hd (Nat.mod_lt _ (by decide))) (by omega) (by omega) (hG.sub S)) rfl rfl ?_
      rintro _ w8 ⟨n, rfl, hP, s9⟩
      have S := S.trans s9
      have hb_6 := hb_6.sub s9
      have hPr := hP.rng (by omega)
      rw [hlv] at hP
      refine RL.ev (.assign rfl) rfl rfl ?_
      refine RL.nil (RC.back ?_)
      refine RC.seq ?_
      refine RC.seq ?_
      refine RC.region rfl ?_
      refine RL.ev (.move rfl) rfl rfl ?_
      refine RL.ev (.bin rfl rfl rfl) rfl rfl ?_
      refine RL.nil (RC.back ?_)
      refine RC.cond_dec rfl (fun h10 => ?_) (fun h10 => ?_)
      ·
        have hres : MayP s.1 (k + 1) r d left (-1) := trie_no hk hy hy2 hS (by omega) (.inr ⟨n, by rw [hkx]; exact hP, h10⟩)
        refine RC.seq ?_
        refine RC.region rfl ?_
        refine RL.ev (.assign rfl) rfl rfl ?_
        refine RL.nil (RC.back ?_)
        refine RC.done (rs := [.tmp 10]) (vs := [_]) rfl rfl ⟨rfl, trivial⟩ ?_
        -- end 3
        exact ⟨_, rfl, hres, S⟩
      ·
        have hn0 : 0 ≤ n := (by omega)
        refine RC.skip (RC.back ?_)
        refine RC.region rfl ?_
        refine RL.ev (.move rfl) rfl rfl ?_
        refine RL.ev (.move rfl) rfl rfl ?_
        refine RL.ev (.as (.bin rfl rfl rfl) (wi64 (y := sum + n) (by rfl) (by omega))) rfl rfl ?_
        refine RL.ev (.assign rfl) rfl rfl ?_
        refine RL.nil (RC.back ?_)
        refine RC.region rfl ?_
        refine RL.ev (.as (.bin rfl rfl rfl) (wi64 (y := ((i + 1 : Nat) : Int)) (by omega) (by omega))) rfl rfl ?_
        refine RL.ev (.move rfl) rfl rfl ?_
        exact RL.nil (fun a ka => ⟨(i + 1, sum + n), ⟨by omega, trie_step hk (hlv ▸ hd) hS (by omega) (fun h => absurd h (by omega)) (by rw [hkx]; exact hP) hn0, hb_6, S⟩, by omega, ka.keep (keep_of (by repeat (first | exact trivial | refine And.intro rfl ?_)))⟩)
  ·
    obtain rfl : i = 9 := (by omega)
    have hend := trie_end (r := r) hk hy hy2 hyb hS
    refine RC.exit rfl (RC.back ?_)
    refine RC.seq ?_
    refine RC.seq ?_
    refine RC.region rfl ?_
    refine RL.ev (.move rfl) rfl rfl ?_
    refine RL.ev (.bin rfl rfl rfl) rfl rfl ?_
    refine RL.ev (.move rfl) rfl rfl ?_
    refine RL.split 50 rfl (fun h11 => ?_) (fun h11 => ?_)
    ·
      have hres : MayP s.1 (k + 1) r d left (-1) := hend.2 (.inl h11)
      refine RL.off rfl rfl ?_
      refine RL.off rfl rfl ?_
      refine RL.off rfl rfl ?_
      refine RL.off rfl rfl ?_
      refine RL.ev (.pick_t rfl rfl) rfl rfl ?_
      refine RL.nil (RC.back ?_)
      refine RC.cond_t rfl ?_
      refine RC.seq ?_
      refine RC.region rfl ?_
      refine RL.ev (.assign rfl) rfl rfl ?_
      refine RL.nil (RC.back ?_)
      refine RC.done (rs := [.tmp 10]) (vs := [_]) rfl rfl ⟨rfl, trivial⟩ ?_
      -- end 4
      exact ⟨_, rfl, hres, S⟩
    ·
      have h50 := h11
      refine RL.ev (.move rfl) rfl rfl ?_
      refine RL.ev (.field0 fo140_4 rfl) rfl rfl ?_
      refine RL.ev (.load1 sh2 rfl (hb_6.cell rfl)) rfl rfl ?_
      refine RL.ev (.bin rfl rfl rfl) rfl rfl ?_
      refine RL.ev (.pick_f rfl rfl) rfl rfl ?_
      refine RL.nil (RC.back ?_)
      refine RC.cond_dec rfl (fun h12 => ?_) (fun h12 => ?_)
      ·
        have hres : MayP s.1 (k + 1) r d left (-1) := hend.2 (.inr h12)
        refine RC.seq ?_
        refine RC.region rfl ?_
        refine RL.ev (.assign rfl) rfl rfl ?_
        refine RL.nil (RC.back ?_)
        refine RC.done (rs := [.tmp 10]) (vs := [_]) rfl rfl ⟨rfl, trivial⟩ ?_
        -- end 5
        exact ⟨_, rfl, hres, S⟩
      ·
        have hres : MayP s.1 (k + 1) r d left sum := hend.1 (fun e => e.elim h50 h12)
        refine RC.skip (RC.back ?_)
        refine RC.seq ?_
        refine RC.region rfl ?_
        refine RL.ev (.move rfl) rfl rfl ?_
        refine RL.ev (.assign rfl) rfl rfl ?_
        refine RL.nil (RC.back ?_)
        refine RC.done (rs := [.tmp 10]) (vs := [_]) rfl rfl ⟨rfl, trivial⟩ ?_
        -- end 6
        exact ⟨_, rfl, hres, S⟩
theorem kid_cell {y : Node} {i : Nat} {x : Int} (h : y.kids[i]? = some x) : y.cells[5 + (i : Int).toNat * 1]? = some (u6 x) := by
  have hi : i < 9 := lt_of_get h
  rcases i with _|_|_|_|_|_|_|_|_|i
  all_goals first | (cases h; rfl) | omega
theorem mayP_uniq {A : Ar} {k d : Nat} {r left n m : Int} (h : MayP A k r d left n) (h2 : MayP A k r d left m) : n = m := by
  rcases h with ⟨l, h, rfl⟩ | ⟨rfl, h⟩ <;> rcases h2 with ⟨l', h2, rfl⟩ | ⟨rfl, h2⟩
  · have e1 := h.1.size; have e2 := h2.1.size; omega
  · exact absurd h (h2 l)
  · exact absurd h2 (h l')
  · rfl
def leafV (z : Node) (d : Nat) : Int := if leafH z = z ∧ hashOf z.n % 4 ^ 10 = d then 1 else -1
theorem leafV_ok {A : Ar} {r : Int} {z : Node} {d : Nat} (hz : getA A r = some z) (h3 : z.kind = 3) : MayP A 0 r d 1 (leafV z d) := by
  unfold leafV
  by_cases q : leafH z = z ∧ hashOf z.n % 4 ^ 10 = d
  · rw [if_pos q]; exact (mayP_leaf (k := 0) (d := d) (getA_nz hz) hz h3 (by decide)).1 q
  · rw [if_neg q]; exact (mayP_leaf (k := 0) (d := d) (getA_nz hz) hz h3 (by decide)).2 q
theorem c_mayLeaf (bf : Nat) (s : St) (C : Nat → Prop) (r : Int) (hr : U64 r) (z : Node) (hz : getA s.1 r = some z) (h3 : z.kind = 3) (d : Nat) (w : World) (hF : Ft C (Ho bf s C) w) :
    FC Tryz.prog 110 [.pointer (some ⟨bf, 0, none⟩), .int .u64 r, .int .i64 10, .int .i64 (d : Int), .int .i64 1] w (Val (.int .i64 (leafV z d)) w) := by
  refine (c_mayG bf s C 0 10 (by decide) rfl r hr d 1 (by decide) w hF (fun y2 e1 e2 => by rw [hz] at e1; cases e1; omega) (fun y2 e1 e2 => by rw [hz] at e1; cases e1; omega)).mono ?_
  rintro v w' ⟨n, rfl, hP, s'⟩
  exact ⟨by rw [mayP_uniq hP (leafV_ok hz h3)], s'⟩
set_option maxHeartbeats 2000000 in
theorem c_clashH (bf : Nat) (s : St) (C : Nat → Prop) (r : Int) (y : Node) (hy : getA s.1 r = some y) (hyo : y.ok) (hy4 : y.kind = 4) (hyb : bareH y = y) (d : Nat) (left : Int) (w : World) (hF : Ft C (Ho bf s C) w) :
    FC Tryz.prog 185 [.pointer (some ⟨bf, 0, none⟩), y.val, .int .i64 (d : Int)] w (MayR (fun n => (n ≤ left → MayP s.1 0 r d left n) ∧ (left < n → MayP s.1 0 r d left (-1))) w) := by
  have hG : Ft C (Ho bf s C) w := hF
  have hnok := hF.now.nok
  have res_no : (∀ left l, ¬ MayT s.1 0 r d left l) → (((-1 : Int) ≤ left → MayP s.1 0 r d left (-1)) ∧ (left < (-1 : Int) → MayP s.1 0 r d left (-1))) := fun h => ⟨fun _ => .inr ⟨rfl, h left⟩, fun _ => .inr ⟨rfl, h left⟩⟩
  refine FC.intro Tryz.func185 rfl Tryz.ntmps185 rfl ?_
  have S := Sub.refl w
  refine RC.seq ?_
  refine RC.region rfl ?_
  refine RL.box rfl rfl rfl (fun b_4 w_4 e_4 z_4 hb_4 s_4 => ?_)
  have ge_4 := S.le e_4
  have S := S.trans s_4
  have hb_4 : Has w_4 b_4 (y.cells) _ := hb_4
  refine RL.ev (.assign rfl) rfl rfl ?_
  refine RL.nil (RC.back ?_)
  refine RC.seq ?_
  refine RC.region rfl ?_
  refine RL.ev (.assign rfl) rfl rfl ?_
  refine RL.nil (RC.back ?_)
  refine RC.seq ?_
  refine RC.seq ?_
  refine RC.region rfl ?_
  refine RL.ev (.field0 fo140_5 rfl) rfl rfl ?_
  refine RL.ev (.as (v' := .agg (y.kids.map u6).toArray) (.loadR (y.kids.map u6) sh138 rfl (Has.row_at (pre := [i6 y.kind, i6 y.gen, i6 y.n, i6 y.v, i6 y.s]) (mid := y.kids.map u6) (post := [i6 y.pre, i6 y.suf]) hb_4 rfl) rfl) (by rfl)) rfl rfl ?_
  refine RL.ev (.move rfl) rfl rfl ?_
  refine RL.nil (RC.back ?_)
  refine RC.block ?_
  refine RC.loop (α := Nat × Int) (fun x => [(0, .pointer (some ⟨bf, 0, none⟩)), (2, .int .i64 (d : Int)), (4, .pointer (some ⟨b_4, 0, none⟩)), (7, .int .i64 x.2), (12, .agg (y.kids.map u6).toArray), (13, .int .i64 (x.1 : Int))]) (fun x w1 => x.1 ≤ 9 ∧ ClashS s.1 y d x.1 x.2 ∧ Has w1 b_4 y.cells 140 ∧ Sub w w1) (fun x => 9 - x.1) (0, 0) (keep_of (by repeat (first | exact trivial | refine And.intro rfl ?_))) (⟨Nat.zero_le _, clash_start, hb_4, S⟩) (fun x w1 hJ => ?_)
  obtain ⟨i, many⟩ := x; obtain ⟨hi, hS, hb_4, S⟩ := hJ; simp only [] at hi hS; have hsr : 0 ≤ many ∧ many ≤ i := (by obtain ⟨l, _, q2, q3, _⟩ := hS; omega)
  refine RC.seq ?_
  refine RC.region rfl ?_
  refine RL.ev (.bin rfl rfl rfl) rfl rfl ?_
  refine RL.nil (RC.back ?_)
  refine RC.seq ?_
  refine RC.cond_dec rfl (fun h2 => ?_) (fun h2 => ?_)
  ·
    obtain ⟨x, hx⟩ := getSome (l := y.kids) (i := i) (by show i < 9; omega)
    have hkx := kid_get hx
    have hxu := hyo.kids x (List.mem_of_getElem? hx)
    have hi9 : i < 9 := (by omega)
    refine RC.skip (RC.back ?_)
    refine RC.seq ?_
    refine RC.block ?_
    refine RC.seq ?_
    refine RC.region rfl ?_
    refine RL.ev (.move rfl) rfl rfl ?_
    refine RL.ev (.index1 ar138 sh31 rfl rfl (by omega) ((by simp [hx] : (y.kids.map u6).toArray[(i : Int).toNat * 1]? = some (u6 x)))) rfl rfl ?_
    refine RL.ev (.assign rfl) rfl rfl ?_
    refine RL.ev (.assign rfl) rfl rfl ?_
    refine RL.nil (RC.back ?_)
    refine RC.seq ?_
    refine RC.region rfl ?_
    refine RL.ev (.move rfl) rfl rfl ?_
    refine RL.ev (.move rfl) rfl rfl ?_
    refine RL.call rfl ok200 (c_hget bf s C x hxu w1 (hG.sub S)) rfl rfl ?_
    rintro _ w3 ⟨rfl, s4⟩
    have S := S.trans s4
    have hb_4 := hb_4.sub s4
    refine RL.alloc ze140 rfl rfl (fun b_10 w_10 e_10 z_10 hb_10 s_10 => ?_)
    have ge_10 := S.le e_10
    have n_4__10 := hb_4.ne e_10
    have S := S.trans s_10
    have hb_4 := hb_4.sub s_10
    refine RL.store sh140 rfl rfl rfl hb_10 (by exact Nat.le_of_ble_eq_true rfl) (by rfl) rfl (fun w5 z5 hb_10 a5 => ?_)
    have S := S.upd a5 ge_10
    have hb_4 := hb_4.upd a5 n_4__10
    have hb_10 : Has w5 b_10 ((getN s.1 x).cells) _ := hb_10.now (by kernel_rfl)
    refine RL.nil (RC.back ?_)
    refine RC.seq ?_
    refine RC.seq ?_
    refine RC.region rfl ?_
    refine RL.ev (.move rfl) rfl rfl ?_
    refine RL.ev (.bin rfl rfl rfl) rfl rfl ?_
    refine RL.nil (RC.back ?_)
    refine RC.cond_dec rfl (fun h6 => ?_) (fun h6 => ?_)
    ·
      have hx0 := h6
      refine RC.exit rfl (RC.back ?_)
      refine RC.region rfl ?_
      refine RL.ev (.as (.bin rfl rfl rfl) (wi64 (y := ((i + 1 : Nat) : Int)) (by omega) (by omega))) rfl rfl ?_
      refine RL.ev (.move rfl) rfl rfl ?_
      exact RL.nil (fun a ka => ⟨(i + 1, many), ⟨by omega, clash_skip hS (by rw [hkx]; exact hx0), hb_4, S⟩, by omega, ka.keep (keep_of (by repeat (first | exact trivial | refine And.intro rfl ?_)))⟩)
    ·
      have hx0 : ¬ x = 0 := h6
      refine RC.skip (RC.back ?_)
      refine RC.seq ?_
      refine RC.seq ?_
      refine RC.draw rfl mxo (by kernel_rfl) ?_
      refine RQ.ev (.move rfl) rfl rfl ?_
      refine RQ.ev (.move rfl) rfl rfl ?_
      refine RQ.ev (.bin rfl rfl rfl) rfl rfl ?_
      refine RQ.ev (.move rfl) rfl rfl ?_
      refine RQ.split 25 rfl (fun h7 => ?_) (fun h7 => ?_)
      ·
        have hres := res_no (clash_no hy hy4 hS hi9 (by rw [hkx]; exact hx0) (.inl h7))
        refine RQ.off rfl rfl ?_
        refine RQ.off rfl rfl ?_
        refine RQ.off rfl rfl ?_
        refine RQ.ev (.pick_t rfl rfl) rfl rfl ?_
        refine RQ.ev (.move rfl) rfl rfl ?_
        refine RQ.off rfl rfl ?_
        refine RQ.off rfl rfl ?_
        refine RQ.off rfl rfl ?_
        refine RQ.off rfl rfl ?_
        refine RQ.off rfl rfl ?_
        refine RQ.ev (.pick_t rfl rfl) rfl rfl ?_
        refine RQ.ev (.move rfl) rfl rfl ?_
        refine RQ.off rfl rfl ?_
        refine RQ.off rfl rfl ?_
        refine RQ.off rfl rfl ?_
        refine RQ.off rfl rfl ?_
        refine RQ.off rfl rfl ?_
        refine RQ.off rfl rfl ?_
        refine RQ.off rfl rfl ?_
        refine RQ.off rfl rfl ?_
        refine RQ.off rfl rfl ?_
        refine RQ.off rfl rfl ?_
        refine RQ.off rfl rfl ?_
        refine RQ.off rfl rfl ?_
        refine RQ.off rfl rfl ?_
        refine RQ.off rfl rfl ?_
        refine RQ.off rfl rfl ?_
        refine RQ.ev (.pick_t rfl rfl) rfl rfl ?_
        refine RQ.nil (fun w8 s9 => RC.back ?_)
        have S := S.trans s9
        have hb_4 := hb_4.sub s9
        have hb_10 := hb_10.sub s9
        refine RC.cond_t rfl ?_
        refine RC.seq ?_
        refine RC.region rfl ?_
        refine RL.ev (.assign rfl) rfl rfl ?_
        refine RL.nil (RC.back ?_)
        refine RC.done (rs := [.tmp 6]) (vs := [_]) rfl rfl ⟨rfl, trivial⟩ ?_
        -- end 1
        exact ⟨_, rfl, hres, S⟩
      ·
        have him : (i : Int) = many := Decidable.not_not.1 h7
        refine RQ.ev (.field0 fo140_0 rfl) rfl rfl ?_
        refine RQ.ev (.load1 sh3 rfl (hb_10.cell rfl)) rfl rfl ?_
        refine RQ.ev (.bin rfl rfl rfl) rfl rfl ?_
        refine RQ.ev (.pick_f rfl rfl) rfl rfl ?_
        refine RQ.ev (.move rfl) rfl rfl ?_
        refine RQ.split 30 rfl (fun h10 => ?_) (fun h10 => ?_)
        ·
          have hres := res_no (clash_no hy hy4 hS hi9 (by rw [hkx]; exact hx0) (.inr (.inl (by rw [hkx]; exact h10))))
          refine RQ.off rfl rfl ?_
          refine RQ.off rfl rfl ?_
          refine RQ.off rfl rfl ?_
          refine RQ.off rfl rfl ?_
          refine RQ.off rfl rfl ?_
          refine RQ.ev (.pick_t rfl rfl) rfl rfl ?_
          refine RQ.ev (.move rfl) rfl rfl ?_
          refine RQ.off rfl rfl ?_
          refine RQ.off rfl rfl ?_
          refine RQ.off rfl rfl ?_
          refine RQ.off rfl rfl ?_
          refine RQ.off rfl rfl ?_
          refine RQ.off rfl rfl ?_
          refine RQ.off rfl rfl ?_
          refine RQ.off rfl rfl ?_
          refine RQ.off rfl rfl ?_
          refine RQ.off rfl rfl ?_
          refine RQ.off rfl rfl ?_
          refine RQ.off rfl rfl ?_
          refine RQ.off rfl rfl ?_
          refine RQ.off rfl rfl ?_
          refine RQ.off rfl rfl ?_
          refine RQ.ev (.pick_t rfl rfl) rfl rfl ?_
          refine RQ.nil (fun w11 s12 => RC.back ?_)
          have S := S.trans s12
          have hb_4 := hb_4.sub s12
          have hb_10 := hb_10.sub s12
          refine RC.cond_t rfl ?_
          refine RC.seq ?_
          refine RC.region rfl ?_
          refine RL.ev (.assign rfl) rfl rfl ?_
          refine RL.nil (RC.back ?_)
          refine RC.done (rs := [.tmp 6]) (vs := [_]) rfl rfl ⟨rfl, trivial⟩ ?_
          -- end 2
          exact ⟨_, rfl, hres, S⟩
        ·
          have hx3 : (getN s.1 x).kind = 3 := Decidable.not_not.1 h10
          obtain ⟨z, hz⟩ : ∃ z, getA s.1 x = some z := (by cases hg : getA s.1 x with | none => rw [getN, hg] at hx3; exact absurd hx3 (show ¬ (0 : Int) = 3 by decide) | some z => exact ⟨z, rfl⟩)
          have hgz := getN_yes hz
          rw [hgz] at hx3
          refine RQ.ev (.move rfl) rfl rfl ?_
          refine RQ.ev (.move rfl) rfl rfl ?_
          refine RQ.ev (.move rfl) rfl rfl ?_
          refine RQ.call rfl ok110 (fun w' s' => c_mayLeaf bf s C x hxu z hz hx3 d w' (hG.sub (S.trans s'))) rfl rfl ?_
          refine RQ.ev (.bin rfl rfl rfl) rfl rfl ?_
          refine RQ.ev (.pick_f rfl rfl) rfl rfl ?_
          refine RQ.ev (.move rfl) rfl rfl ?_
          refine RQ.split 37 rfl (fun h13 => ?_) (fun h13 => ?_)
          ·
            have hres := res_no (clash_no hy hy4 hS hi9 (by rw [hkx]; exact hx0) (.inr (.inr (.inl ⟨leafV z d, by rw [hkx]; exact leafV_ok hz hx3, h13⟩))))
            refine RQ.off rfl rfl ?_
            refine RQ.off rfl rfl ?_
            refine RQ.off rfl rfl ?_
            refine RQ.off rfl rfl ?_
            refine RQ.off rfl rfl ?_
            refine RQ.off rfl rfl ?_
            refine RQ.off rfl rfl ?_
            refine RQ.off rfl rfl ?_
            refine RQ.off rfl rfl ?_
            refine RQ.off rfl rfl ?_
            refine RQ.off rfl rfl ?_
            refine RQ.off rfl rfl ?_
            refine RQ.off rfl rfl ?_
            refine RQ.off rfl rfl ?_
            refine RQ.off rfl rfl ?_
            refine RQ.ev (.pick_t rfl rfl) rfl rfl ?_
            refine RQ.nil (fun w14 s15 => RC.back ?_)
            have S := S.trans s15
            have hb_4 := hb_4.sub s15
            have hb_10 := hb_10.sub s15
            refine RC.cond_t rfl ?_
            refine RC.seq ?_
            refine RC.region rfl ?_
            refine RL.ev (.assign rfl) rfl rfl ?_
            refine RL.nil (RC.back ?_)
            refine RC.done (rs := [.tmp 6]) (vs := [_]) rfl rfl ⟨rfl, trivial⟩ ?_
            -- end 3
            exact ⟨_, rfl, hres, S⟩
          ·
            have hn1 : leafV z d = 1 := Decidable.not_not.1 h13
            have hP1 := leafV_ok (d := d) hz hx3
            rw [hn1] at hP1
            refine RQ.ev (.move rfl) rfl rfl ?_
            refine RQ.ev (.bin rfl rfl rfl) rfl rfl ?_
            refine RQ.ev (.move rfl) rfl rfl ?_
            refine RQ.split 40 rfl (fun h16 => ?_) (fun h16 => ?_)
            ·
              have h40 : 0 < i := (by have := h16; omega)
              obtain ⟨x1, hx1⟩ := getSome (l := y.kids) (i := i - 1) (by show i - 1 < 9; omega)
              have hkx1 := kid_get hx1
              refine RQ.ev (.move rfl) rfl rfl ?_
              refine RQ.ev (.move rfl) rfl rfl ?_
              refine RQ.ev (.as (.bin rfl rfl rfl) (wi64 (y := ((i - 1 : Nat) : Int)) (by omega) (by omega))) rfl rfl ?_
              refine RQ.ev (.field0 fo140_5 rfl) rfl rfl ?_
              refine RQ.ev (.indexArr ar138 rfl rfl (by omega)) rfl rfl ?_
              refine RQ.ev (.load1 sh31 rfl (hb_4.cell (kid_cell hx1))) rfl rfl ?_
              refine RQ.call rfl ok200 (fun w' s' => c_hget bf s C x1 (hyo.kids x1 (List.mem_of_getElem? hx1)) w' (hG.sub (S.trans s'))) rfl rfl ?_
              refine RQ.ev (.fieldV Tryz.underlying140 rfl sh2 rfl rfl) rfl rfl ?_
              refine RQ.ev (.field0 fo140_2 rfl) rfl rfl ?_
              refine RQ.ev (.load1 sh2 rfl (hb_10.cell rfl)) rfl rfl ?_
              refine RQ.ev (.bin rfl rfl rfl) rfl rfl ?_
              refine RQ.ev (.pick_t rfl rfl) rfl rfl ?_
              refine RQ.ev (.pick_f rfl rfl) rfl rfl ?_
              refine RQ.nil (fun w17 s18 => RC.back ?_)
              have S := S.trans s18
              have hb_4 := hb_4.sub s18
              have hb_10 := hb_10.sub s18
              refine RC.cond_dec rfl (fun h19 => ?_) (fun h19 => ?_)
              ·
                have hres := res_no (clash_no hy hy4 hS hi9 (by rw [hkx]; exact hx0) (.inr (.inr (.inr ⟨h40, by rw [hkx, hkx1]; exact h19⟩))))
                refine RC.seq ?_
                refine RC.region rfl ?_
                refine RL.ev (.assign rfl) rfl rfl ?_
                refine RL.nil (RC.back ?_)
                refine RC.done (rs := [.tmp 6]) (vs := [_]) rfl rfl ⟨rfl, trivial⟩ ?_
                -- end 4
                exact ⟨_, rfl, hres, S⟩
              ·
                have hlt := h19
                refine RC.skip (RC.back ?_)
                refine RC.region rfl ?_
                refine RL.ev (.move rfl) rfl rfl ?_
                refine RL.ev (.as (.bin rfl rfl rfl) (wi64 (y := many + 1) (by rfl) (by omega))) rfl rfl ?_
                refine RL.ev (.assign rfl) rfl rfl ?_
                refine RL.nil (RC.back ?_)
                refine RC.region rfl ?_
                refine RL.ev (.as (.bin rfl rfl rfl) (wi64 (y := ((i + 1 : Nat) : Int)) (by omega) (by omega))) rfl rfl ?_
                refine RL.ev (.move rfl) rfl rfl ?_
                exact RL.nil (fun a ka => ⟨(i + 1, many + 1), ⟨by omega, clash_step hS him (by rw [hkx]; exact hz) hx3 (by rw [hkx]; exact hP1) (fun h => by first | exact absurd h h40 | (rw [hkx1]; rw [hgz] at hlt; omega)), hb_4, S⟩, by omega, ka.keep (keep_of (by repeat (first | exact trivial | refine And.intro rfl ?_)))⟩)
            ·
              have h40 : ¬ 0 < i := (by have := h16; omega)
              refine RQ.off rfl rfl ?_
              refine RQ.off rfl rfl ?_
              refine RQ.off rfl rfl ?_
              refine RQ.off rfl rfl ?_
              refine RQ.off rfl rfl ?_
              refine RQ.off rfl rfl ?_
              refine RQ.off rfl rfl ?_
              refine RQ.off rfl rfl ?_
              refine RQ.off rfl rfl ?_
              refine RQ.off rfl rfl ?_
              refine RQ.off rfl rfl ?_
              refine RQ.ev (.pick_f rfl rfl) rfl rfl ?_
              refine RQ.ev (.pick_f rfl rfl) rfl rfl ?_
              refine RQ.nil (fun w20 s21 => RC.back ?_)
              have S := S.trans s21
              have hb_4 := hb_4.sub s21
              have hb_10 := hb_10.sub s21
              refine RC.cond_f rfl ?_
              refine RC.skip (RC.back ?_)
              refine RC.region rfl ?_
              refine RL.ev (.move rfl) rfl rfl ?_
              refine RL.ev (.as (.bin rfl rfl rfl) (wi64 (y := many + 1) (by rfl) (by omega))) rfl rfl ?_
              refine RL.ev (.assign rfl) rfl rfl ?_
              refine RL.nil (RC.back ?_)
              refine RC.region rfl ?_
              refine RL.ev (.as (.bin rfl rfl rfl) (wi64 (y := ((i + 1 : Nat) : Int)) (by omega) (by omega))) rfl rfl ?_
              refine RL.ev (.move rfl) rfl rfl ?_
              exact RL.nil (fun a ka => ⟨(i + 1, many + 1), ⟨by omega, clash_step hS him (by rw [hkx]; exact hz) hx3 (by rw [hkx]; exact hP1) (fun h => by first | exact absurd h h40 | (rw [hkx1]; rw [hgz] at hlt; omega)), hb_4, S⟩, by omega, ka.keep (keep_of (by repeat (first | exact trivial | refine And.intro rfl ?_)))⟩)
  ·
    obtain rfl : i = 9 := (by omega)
    have hend := clash_end (r := r) (left := left) hy hy4 hyb hS
    refine RC.exit rfl (RC.back ?_)
    refine RC.seq ?_
    refine RC.seq ?_
    refine RC.region rfl ?_
    refine RL.ev (.move rfl) rfl rfl ?_
    refine RL.ev (.bin rfl rfl rfl) rfl rfl ?_
    refine RL.ev (.move rfl) rfl rfl ?_
    refine RL.split 59 rfl (fun h22 => ?_) (fun h22 => ?_)
    ·
      have hres := res_no fun left l => (clash_end (left := left) hy hy4 hyb hS).2 (.inl (.inl h22)) l
      refine RL.off rfl rfl ?_
      refine RL.off rfl rfl ?_
      refine RL.off rfl rfl ?_
      refine RL.off rfl rfl ?_
      refine RL.ev (.pick_t rfl rfl) rfl rfl ?_
      refine RL.nil (RC.back ?_)
      refine RC.cond_t rfl ?_
      refine RC.seq ?_
      refine RC.region rfl ?_
      refine RL.ev (.assign rfl) rfl rfl ?_
      refine RL.nil (RC.back ?_)
      refine RC.done (rs := [.tmp 6]) (vs := [_]) rfl rfl ⟨rfl, trivial⟩ ?_
      -- end 5
      exact ⟨_, rfl, hres, S⟩
    ·
      have h59 := h22
      refine RL.ev (.move rfl) rfl rfl ?_
      refine RL.ev (.field0 fo140_4 rfl) rfl rfl ?_
      refine RL.ev (.load1 sh2 rfl (hb_4.cell rfl)) rfl rfl ?_
      refine RL.ev (.bin rfl rfl rfl) rfl rfl ?_
      refine RL.ev (.pick_f rfl rfl) rfl rfl ?_
      refine RL.nil (RC.back ?_)
      refine RC.cond_dec rfl (fun h23 => ?_) (fun h23 => ?_)
      ·
        have hres := res_no fun left l => (clash_end (left := left) hy hy4 hyb hS).2 (.inl (.inr h23)) l
        refine RC.seq ?_
        refine RC.region rfl ?_
        refine RL.ev (.assign rfl) rfl rfl ?_
        refine RL.nil (RC.back ?_)
        refine RC.done (rs := [.tmp 6]) (vs := [_]) rfl rfl ⟨rfl, trivial⟩ ?_
        -- end 6
        exact ⟨_, rfl, hres, S⟩
      ·
        have h64 := h23
        have hres : (many ≤ left → MayP s.1 0 r d left many) ∧ (left < many → MayP s.1 0 r d left (-1)) := ⟨fun h => hend.1 (fun e => e.elim h59 h64) h, fun h => .inr ⟨rfl, hend.2 (.inr h)⟩⟩
        refine RC.skip (RC.back ?_)
        refine RC.seq ?_
        refine RC.region rfl ?_
        refine RL.ev (.move rfl) rfl rfl ?_
        refine RL.ev (.assign rfl) rfl rfl ?_
        refine RL.nil (RC.back ?_)
        refine RC.done (rs := [.tmp 6]) (vs := [_]) rfl rfl ⟨rfl, trivial⟩ ?_
        -- end 7
        exact ⟨_, rfl, hres, S⟩
theorem c_hmay (bf : Nat) (s : St) (C : Nat → Prop) : ∀ (k lv : Nat) (r : Int) (d : Nat) (left : Int) (w : World), k ≤ 10 → lv = 10 - k → U64 r → d < 4 ^ lv → 0 ≤ left → left ≤ 1000000 → Ft C (Ho bf s C) w →
    FC Tryz.prog 110 [.pointer (some ⟨bf, 0, none⟩), .int .u64 r, .int .i64 (lv : Int), .int .i64 (d : Int), .int .i64 left] w (MayR (MayP s.1 k r d left) w)
  | 0, lv, r, d, left, w, hk, hlv, hr, hd, h0, hl, hF =>
    c_mayG bf s C 0 lv hk hlv r hr d left h0 w hF (fun y _ _ _ h => absurd rfl h) (fun y hy h4 hb _ _ w' s' => c_clashH bf s C r y hy (hF.now.nok y (getA_nok hy)) h4 hb d left w' (hF.sub s'))
  | k + 1, lv, r, d, left, w, hk, hlv, hr, hd, h0, hl, hF =>
    c_mayG bf s C (k + 1) lv hk hlv r hr d left h0 w hF (fun y hy h2 hb _ _ w' s' => c_trie bf s C k lv (by omega) (by omega) r y hy (hF.now.nok y (getA_nok hy)) h2 hb d hd left h0 hl
      (fun r' d' left' w2 h1 h2 h3 h4 h5 => c_hmay bf s C k (lv + 1) r' d' left' w2 (by omega) (by omega) h1 h2 h3 h4 h5) w' (hF.sub s')) (fun y _ _ _ h => absurd h (by omega))
theorem c_hRight (A : Ar) (na fa : Option Addr) (nc fc : Nat) (hnc : A.nodes.length ≤ nc) (hfc : A.free.length ≤ fc) (r : Int) (hr : U64 r) (w : World) (hA : ArR w na fa A) :
    FC Tryz.prog 51 [arV na fa nc fc A, .int .u64 r] w (Val (.bool (isTabB A r)) w) := by
  have hN := hA.nodes
  have hFr := hA.free
  have hG : Ft (· < w.heap.size) (fun u => ArR u na fa A) w := Ft.of_sub fun u s => hA.sub s
  refine FC.intro Tryz.func51 rfl Tryz.ntmps51 rfl ?_
  have S := Sub.refl w
  refine RC.seq ?_
  refine RC.region rfl ?_
  refine RL.box rfl rfl rfl (fun b_2 w_2 e_2 z_2 hb_2 s_2 => ?_)
  have ge_2 := S.le e_2
  have S := S.trans s_2
  have hb_2 : Has w_2 b_2 ([.slice na A.nodes.length nc, .slice fa A.free.length fc]) _ := hb_2
  refine RL.ev (.assign rfl) rfl rfl ?_
  refine RL.nil (RC.back ?_)
  refine RC.seq ?_
  refine RC.region rfl ?_
  refine RL.ev (.loadR ([.slice na A.nodes.length nc, .slice fa A.free.length fc]) sh26 rfl hb_2.row rfl) rfl rfl ?_
  refine RL.ev (.buildS ze195 pl195 rfl rfl) rfl rfl ?_
  refine RL.box rfl rfl rfl (fun b_8 w_8 e_8 z_8 hb_8 s_8 => ?_)
  have ge_8 := S.le e_8
  have n_2__8 := hb_2.ne e_8
  have S := S.trans s_8
  have hb_2 := hb_2.sub s_8
  have hb_8 : Has w_8 b_8 (wvC na fa nc fc A 0) 195 := hb_8
  have hG1 := hG.sub S
  have hF := FoG.ft (s := (A, 0)) hb_8 hnc hfc hG1 (fun e => by have := ge_8; omega)
  refine RL.ev (.assign rfl) rfl rfl ?_
  refine RL.nil (RC.back ?_)
  refine RC.seq ?_
  refine RC.region rfl ?_
  refine RL.ev (.loadR ([.slice na A.nodes.length nc, .slice fa A.free.length fc]) sh26 rfl hb_2.row rfl) rfl rfl ?_
  refine RL.call rfl ok109 (c_aRight A na fa nc fc w_8 (hA.sub S)) rfl rfl ?_
  rintro _ w1 ⟨rfl, s2⟩
  have S := S.trans s2
  have hb_2 := hb_2.sub s2
  have hF := hF.sub s2
  refine RL.ev (.move rfl) rfl rfl ?_
  refine RL.splitB 11 rfl (fun h3 => ?_) (fun h3 => ?_)
  ·
    have hok : AOk A := (aokB_iff A).1 h3
    refine RL.ev (.move rfl) rfl rfl ?_
    refine RL.ev (.move rfl) rfl rfl ?_
    refine RL.call rfl ok110 (c_hmay b_8 (A, 0) _ 10 0 r 0 200 w1 (by decide) rfl hr (by decide) (by decide) (by decide) hF) rfl rfl ?_
    rintro _ w4 ⟨n, rfl, hP, s5⟩
    have S := S.trans s5
    have hb_2 := hb_2.sub s5
    have hF := hF.sub s5
    have hP := isTab_iff hok hP
    refine RL.ev (.bin rfl rfl rfl) rfl rfl ?_
    refine RL.ev (.pick_t rfl rfl) rfl rfl ?_
    refine RL.ev (.assign rfl) rfl rfl ?_
    refine RL.nil (RC.back ?_)
    refine RC.done (rs := [.tmp 4]) (vs := [_]) rfl rfl ⟨rfl, trivial⟩ ?_
    -- end 1
    exact ⟨congrArg Value.bool ((Bool.eq_iff_iff.2 (by rw [isTabB_iff, decide_eq_true_iff]; exact hP))), S⟩
  ·
    have hno : isTabB A r = false := isTabB_no (fun h => by have h2 := h3; rw [(aokB_iff A).2 h.1] at h2; cases h2)
    refine RL.off rfl rfl ?_
    refine RL.off rfl rfl ?_
    refine RL.off rfl rfl ?_
    refine RL.off rfl rfl ?_
    refine RL.ev (.pick_f rfl rfl) rfl rfl ?_
    refine RL.ev (.assign rfl) rfl rfl ?_
    refine RL.nil (RC.back ?_)
    refine RC.done (rs := [.tmp 4]) (vs := [_]) rfl rfl ⟨rfl, trivial⟩ ?_
    -- end 2
    rw [hno]
    exact ⟨rfl, S⟩
end Go.Proofs.YtbjmllnddanniaaGreat
set_option linter.unusedVariables false
set_option linter.unusedSimpArgs false
namespace Go.Proofs.YtbjmllnddanniaaGreat
open Go Go.XL
/-- how many keys have one's hash -/
def shL (key : Int) (L : List It) : Nat := (L.filter fun x => decide (hashOf x.k = hashOf key)).length
theorem shL_le (key : Int) (L : List It) : shL key L ≤ L.length := List.length_filter_le _ _
end Go.Proofs.YtbjmllnddanniaaGreat
set_option linter.unusedVariables false
set_option linter.unusedSimpArgs false
set_option maxRecDepth 4000
namespace Go.Proofs.YtbjmllnddanniaaGreat
open Go Go.XL
theorem HoQ.refl {s : St} (h : AOk s.1) : HoQ 0 s s := ⟨Gs.refl h, fun _ => rfl⟩
end Go.Proofs.YtbjmllnddanniaaGreat
set_option linter.unusedVariables false
set_option linter.unusedSimpArgs false
namespace Go.Proofs.YtbjmllnddanniaaGreat
open Go Go.XL
/-- keys that may not be put -/
def BadH (L : List It) (key : Int) : Prop := key < -1073741824 ∨ key > 1073741824 ∨ (hasK L key = false ∧ (200 ≤ L.length ∨ shL key L = 9))
def PutPH (A : Ar) (r key v : Int) (B : Ar) (r' e : Int) : Prop :=
  (¬ isTab A r → e = 1) ∧ (¬ e = 0 → B = ar0 ∧ r' = 0) ∧ ∀ L, isTab A r → IsH A 10 r L → Ap L → (BadH L key ∧ e = 5) ∨ (¬ BadH L key ∧ e = 2 ∧ A.free.length < cnt 10 (putM L key v)) ∨ (¬ BadH L key ∧ e = 0 ∧ Ext A B ∧ AOk B ∧ A.free.length ≤ B.free.length + cnt 10 (putM L key v) ∧ IsH B 10 r' (putM L key v))
theorem shL_perm {key : Int} {L M : List It} (p : L.Perm M) : shL key L = shL key M := (p.filter _).length_eq
theorem BadH.perm {key : Int} {L M : List It} (p : L.Perm M) (h : BadH L key) : BadH M key := by
  unfold BadH at h ⊢
  rw [← hasK_perm p, ← p.length_eq, ← shL_perm p]; exact h
end Go.Proofs.YtbjmllnddanniaaGreat
set_option linter.unusedVariables false
set_option linter.unusedSimpArgs false
namespace Go.Proofs.YtbjmllnddanniaaGreat
open Go Go.XL
/-- the keys and values of a table as its nodes stand -/
def rdF (A : Ar) : Nat → Int → List It
  | 0, _ => []
  | k + 1, r => match getA A r with
    | none => []
    | some y => if y.kind = 3 then [⟨y.n, y.v⟩] else y.kids.flatMap (rdF A k)
theorem rdF_no {A : Ar} {k : Nat} {r : Int} (h : getA A r = none) : rdF A k r = [] := by cases k with | zero => rfl | succ k => rw [rdF, h]
theorem rdF_leaf {A : Ar} {k : Nat} {r : Int} {x : It} (h : lfA A r x) : rdF A (k + 1) r = [x] := by obtain ⟨g, h⟩ := h; rw [rdF, h]; rfl
theorem rdF_node {A : Ar} {k : Nat} {r : Int} {y : Node} (h : getA A r = some y) (h3 : ¬ y.kind = 3) : rdF A (k + 1) r = y.kids.flatMap (rdF A k) := by rw [rdF, h]; exact if_neg h3
theorem kids4 {α : Type} {y : Node} (h : ∀ j, 4 ≤ j → j < 9 → y.kids.getD j 0 = 0) (f : Int → List α) (f0 : f 0 = []) : y.kids.flatMap f = f (y.kids.getD 0 0) ++ (f (y.kids.getD 1 0) ++ (f (y.kids.getD 2 0) ++ f (y.kids.getD 3 0))) := by
  have h4 : y.k4 = 0 := h 4 (by omega) (by omega)
  have h5 : y.k5 = 0 := h 5 (by omega) (by omega)
  have h6 : y.k6 = 0 := h 6 (by omega) (by omega)
  have h7 : y.k7 = 0 := h 7 (by omega) (by omega)
  have h8 : y.k8 = 0 := h 8 (by omega) (by omega)
  simp only [Node.kids, List.flatMap_cons, List.flatMap_nil, h4, h5, h6, h7, h8, f0, List.append_nil, List.nil_append]
  rfl
theorem trie_zero {A : Ar} {k : Nat} {r : Int} {L : List It} (h : IsH A (k + 1) r L) (hl : 2 ≤ L.length) : ∃ y, getA A r = some y ∧ y.kind = 2 ∧ y.s = L.length ∧ (∀ i, i < 4 → IsH A k (y.kids.getD i 0) (ofL (9 - k) i L)) ∧ ∀ j, 4 ≤ j → j < 9 → y.kids.getD j 0 = 0 := by
  obtain ⟨g, ks, h1, h2, h3⟩ := (isH_trie hl).1 h
  exact ⟨_, h2, rfl, rfl, fun i hi => by rw [hN_kid (by omega)]; exact h3 i hi, fun j h4 h9 => by rw [hN_kid h9, List.getD_eq_getElem?_getD, List.getElem?_eq_none (by omega)]; rfl⟩
theorem flat_leaves {α : Type} {f : Int → List α} {g : It → α} : ∀ (ks : List Int) (m : List It), (∀ i x, m[i]? = some x → f (ks.getD i 0) = [g x]) → (∀ i, m.length ≤ i → i < ks.length → f (ks.getD i 0) = []) → m.length ≤ ks.length → ks.flatMap f = m.map g
  | [], m, _, _, hl => by rw [List.eq_nil_of_length_eq_zero (show m.length = 0 by simpa using hl)]; rfl
  | z :: ks, [], h1, h2, _ => by
    have h0 := h2 0 (Nat.zero_le _) (by simp)
    have ih := flat_leaves ks [] (fun i x h => by cases h) (fun i _ hi => h2 (i + 1) (Nat.zero_le _) (by simpa using hi)) (Nat.zero_le _) (g := g)
    rw [List.flatMap_cons, ih]
    exact (congrArg (· ++ _) h0).trans rfl
  | z :: ks, x :: m, h1, h2, hl => by
    have h0 := h1 0 x rfl
    have ih := flat_leaves ks m (fun i y hy => h1 (i + 1) y hy) (fun i h3 h4 => h2 (i + 1) (by simpa using h3) (by simpa using h4)) (by simpa using hl)
    rw [List.flatMap_cons, ih]
    exact (congrArg (· ++ _) h0).trans rfl
theorem rd_clash {A : Ar} {f : Nat} {r : Int} {y : Node} {m : List It} (hy : getA A r = some y) (h4 : y.kind = 4) (hm9 : m.length ≤ 9) (hlf : ∀ i x, m[i]? = some x → lfA A (y.kids.getD i 0) x) (hz : ∀ i, m.length ≤ i → i < 9 → y.kids.getD i 0 = 0) : rdF A (f + 2) r = m := by
  rw [rdF_node hy (by omega), flat_leaves (g := id) y.kids m (fun i x hx => rdF_leaf (hlf i x hx)) (fun i h1 h2 => by rw [hz i h1 h2]; exact rdF_no (getA_z A)) hm9, List.map_id]
theorem rd_perm {A : Ar} : ∀ {k f : Nat} {r : Int} {L : List It}, IsH A k r L → (rdF A (k + f + 2) r).Perm L
  | k, f, r, L, h => by
    rcases row_cases L with rfl | ⟨x, rfl⟩ | h2
    · rw [isH_nil.1 h, rdF_no (getA_z A)]
    · rw [rdF_leaf (isH_one.1 h)]
    · cases k with
      | zero =>
        obtain ⟨y, m, q1, q2, _, q3, _, _, q6, q7, q8⟩ := clash_node ((isH_clash h2).1 h) h2
        rw [rd_clash q1 q2 q6 q7 q8]; exact q3
      | succ k =>
        obtain ⟨y, q1, q2, _, q4, q5⟩ := trie_zero h h2
        rw [show k + 1 + f + 2 = (k + f + 2) + 1 by omega, rdF_node q1 (by omega), kids4 q5 _ (rdF_no (getA_z A))]
        exact ((rd_perm (f := f) (q4 0 (by omega))).append ((rd_perm (f := f) (q4 1 (by omega))).append ((rd_perm (f := f) (q4 2 (by omega))).append (rd_perm (f := f) (q4 3 (by omega)))))).trans (part_perm (9 - k) L)
theorem IsH.some {A : Ar} {k : Nat} {r : Int} {L : List It} (h : IsH A k r L) (hl : ¬ L = []) : ∃ y, getA A r = some y := by
  rcases row_cases L with rfl | ⟨x, rfl⟩ | h2
  · exact absurd rfl hl
  · obtain ⟨g, e⟩ := isH_one.1 h; exact ⟨_, e⟩
  · obtain ⟨_, _, _, _, e⟩ := h.node h2; exact ⟨_, e⟩
end Go.Proofs.YtbjmllnddanniaaGreat
set_option linter.unusedVariables false
set_option linter.unusedSimpArgs false
namespace Go.Proofs.YtbjmllnddanniaaGreat
open Go Go.XL
abbrev Rh := List Int × List It × Bool
end Go.Proofs.YtbjmllnddanniaaGreat
set_option linter.unusedVariables false
set_option linter.unusedSimpArgs false
namespace Go.Proofs.YtbjmllnddanniaaGreat
open Go Go.XL
/-- what is kept while a table is read -/
structure RhOk (N : Nat) (t : Rh) : Prop where
  nd : t.1.Nodup
  rng : ∀ p ∈ t.1, 0 ≤ p ∧ p < N
  row : t.2.1.length ≤ t.1.length
theorem RhOk.len {N : Nat} {t : Rh} (h : RhOk N t) : t.1.length ≤ N := pigeon N t.1 h.nd h.rng
theorem RhOk.off {N : Nat} {t : Rh} (h : RhOk N t) : RhOk N (t.1, t.2.1, false) := ⟨h.nd, h.rng, h.row⟩
theorem RhOk.add {N : Nat} {t : Rh} (h : RhOk N t) {p : Int} (hp : 0 ≤ p ∧ p < N) (hn : ¬ p ∈ t.1) (b : Bool) : RhOk N (t.1 ++ [p], t.2.1, b) := by
  refine ⟨List.nodup_append.2 ⟨h.nd, by simp, fun a ha c hc e => ?_⟩, fun q hq => ?_, ?_⟩
  · rw [List.mem_singleton.1 hc] at e; exact hn (e ▸ ha)
  · rcases List.mem_append.1 hq with hq | hq
    · exact h.rng q hq
    · rw [List.mem_singleton.1 hq]; exact hp
  · have := h.row; rw [List.length_append]; simp only [List.length_singleton]; omega
end Go.Proofs.YtbjmllnddanniaaGreat
set_option linter.unusedVariables false
set_option linter.unusedSimpArgs false
namespace Go.Proofs.YtbjmllnddanniaaGreat
open Go Go.XL
def refOk (n : Nat) (r : Int) : Prop := r = 0 ∨ ∃ j : Nat, r = (j : Int) + 1 ∧ j < n
theorem refOk.u64 {n : Nat} {r : Int} (h : refOk n r) (hn : n ≤ 1000000) : U64 r := by
  rcases h with rfl | ⟨j, rfl, h⟩
  · exact zu64
  · unfold U64; omega
theorem refOk.right {n : Nat} {r : Int} (h : refOk n r) (hn : n ≤ 512) : rightR r = true := by
  rcases h with rfl | ⟨j, rfl, h⟩
  · exact (show rightR 0 = true by decide)
  · exact (place_of_at (a := j) (by omega)).2.2.2
/-- nodes that are laid -/
def GoodH (n : Nat) (l : List It) (y : Node) : Prop := ¬ y.kind = 0 ∧ (n ≤ 512 → well y = true) ∧ ((∀ z ∈ l, z.ok) → y.ok)
theorem GoodH.mono {n : Nat} {l m : List It} {y : Node} (h : GoodH n l y) (hm : ∀ z ∈ l, z ∈ m) : GoodH n m y := ⟨h.1, h.2.1, fun hz => h.2.2 fun z q => hz z (hm z q)⟩
structure LyH (ns : List Node) (at_ k : Nat) (l : List It) (ns' : List Node) (r : Int) : Prop where
  len : ns'.length = ns.length
  same : ∀ i : Nat, (i < at_ ∨ at_ + cnt k l ≤ i) → ns'[i]? = ns[i]?
  isH : ns.length ≤ 512 → ∀ A : Ar, (∀ i : Nat, at_ ≤ i → i < at_ + cnt k l → A.nodes[i]? = ns'[i]?) → IsH A k r l
  good : ∀ (i : Nat) y, at_ ≤ i → i < at_ + cnt k l → ns'[i]? = some y → GoodH ns.length l y
  ref : refOk ns.length r
/-- tables that are laid one behind the other -/
structure LyF (ns : List Node) (at_ k : Nat) (ps : List (List It)) (ns' : List Node) (ks : List Int) : Prop where
  kl : ks.length = ps.length
  len : ns'.length = ns.length
  same : ∀ i : Nat, (i < at_ ∨ at_ + (ps.map (cnt k)).sum ≤ i) → ns'[i]? = ns[i]?
  isH : ns.length ≤ 512 → ∀ A : Ar, (∀ i : Nat, at_ ≤ i → i < at_ + (ps.map (cnt k)).sum → A.nodes[i]? = ns'[i]?) → ∀ j, j < ps.length → IsH A k (ks.getD j 0) (ps.getD j [])
  good : ∀ (i : Nat) y, at_ ≤ i → i < at_ + (ps.map (cnt k)).sum → ns'[i]? = some y → GoodH ns.length ps.flatten y
  ref : ∀ z ∈ ks, refOk ns.length z
theorem LyF.nil (ns : List Node) (at_ k : Nat) : LyF ns at_ k [] ns [] :=
  ⟨rfl, rfl, fun _ _ => rfl, fun _ _ _ j h => absurd h (by simp), fun i y h1 h2 => absurd h2 (by simp; omega), fun z h => by cases h⟩
theorem getD_snoc {α : Type} {l : List α} {x d : α} {j n : Nat} (hl : l.length = n) : (j < n → (l ++ [x]).getD j d = l.getD j d) ∧ (l ++ [x]).getD n d = x := by
  subst hl
  constructor
  · intro h; rw [List.getD_eq_getElem?_getD, List.getD_eq_getElem?_getD, List.getElem?_append_left h]
  · rw [List.getD_eq_getElem?_getD, List.getElem?_append_right (Nat.le_refl _), Nat.sub_self]; rfl
theorem sum_snoc (l : List Nat) (x : Nat) : (l ++ [x]).sum = l.sum + x := by simp [List.sum_append]
theorem LyF.step {ns n1 n2 : List Node} {at_ k a1 : Nat} {ps : List (List It)} {ks : List Int} {q : List It} {r : Int} (h : LyF ns at_ k ps n1 ks) (ha : a1 = at_ + (ps.map (cnt k)).sum) (g : LyH n1 a1 k q n2 r) : LyF ns at_ k (ps ++ [q]) n2 (ks ++ [r]) := by
  subst ha
  have es : ((ps ++ [q]).map (cnt k)).sum = (ps.map (cnt k)).sum + cnt k q := by rw [List.map_append]; exact sum_snoc _ _
  have hl := h.len
  refine ⟨by rw [List.length_append, List.length_append, h.kl]; rfl, by rw [g.len, h.len], fun i hi => ?_, fun h5 A hA j hj => ?_, fun i y h1 h2 hy => ?_, fun z hz => ?_⟩
  · rw [es] at hi
    rw [g.same i (by omega), h.same i (by omega)]
  · rw [es] at hA
    rw [List.length_append] at hj
    by_cases e : j < ps.length
    · rw [(getD_snoc h.kl).1 e, (getD_snoc rfl).1 e]
      exact h.isH h5 A (fun i h1 h2 => by rw [hA i h1 (by omega), g.same i (by omega)]) j e
    · obtain rfl : j = ps.length := by simp at hj; omega
      rw [(getD_snoc (j := 0) h.kl).2, (getD_snoc (j := 0) rfl).2]
      exact g.isH (by rw [hl]; exact h5) A (fun i h1 h2 => hA i (by omega) (by omega))
  · rw [es] at h2
    by_cases e : i < at_ + (ps.map (cnt k)).sum
    · rw [g.same i (by omega)] at hy
      exact (h.good i y h1 e hy).mono fun z hz => by rw [List.flatten_append]; exact List.mem_append_left _ hz
    · have := g.good i y (by omega) (by omega) hy
      rw [hl] at this
      exact this.mono fun z hz => by rw [List.flatten_append]; exact List.mem_append_right _ (by simpa using hz)
  · rcases List.mem_append.1 hz with hz | hz
    · exact h.ref z hz
    · rw [List.mem_singleton.1 hz, ← hl]; exact g.ref
end Go.Proofs.YtbjmllnddanniaaGreat
set_option linter.unusedVariables false
set_option linter.unusedSimpArgs false
namespace Go.Proofs.YtbjmllnddanniaaGreat
open Go Go.XL
section
variable {H : Type} {enc : TypeId × Value → H} {W : World} {base : Nat} {sp : Nat → Bool} {held : Bool} {v : Value} {d : DataW H} {ps : List MemPlace} {r : Reach} {b : Nat}
set_option maxRecDepth 100000 in
theorem open_i64s (hok : Value.okWide Tryz.prog W r b 43 v) (h : DataW.Trod enc Tryz.prog W base sp held 43 v d ps) : ∃ (a : Option Addr) (l : List Int) (c : Nat), v = .slice a l.length c ∧ l.length ≤ c ∧ c ≤ maxLen ∧ Sl W a 1 (l.map fun x => [i6 x]) ∧ ∀ x ∈ l, I64 x :=
  open_sl (fun x => [i6 x]) I64 sl43 rfl rfl fit_int hok h
end
end Go.Proofs.YtbjmllnddanniaaGreat
set_option linter.unusedVariables false
set_option linter.unusedSimpArgs false
namespace Go.Proofs.YtbjmllnddanniaaGreat
open Go Go.XL
theorem tab_of {A : Ar} {r : Int} {L : List It} (hA : AOk A) (h : IsH A 10 r L) (hap : Ap L) (hl : L.length ≤ 200) : isTab A r := ⟨hA, L, h, hap, hl⟩
theorem put_twoH {A B : Ar} {r key v r' e : Int} {L : List It} (h : PutPH A r key v B r' e) (hm : isTab A r) (hL : IsH A 10 r L) (hap : Ap L) :
    (BadH L key → e = 5 ∧ r' = 0) ∧ (¬ BadH L key → e = 2 ∧ A.free.length < cnt 10 (putM L key v) ∨ e = 0 ∧ Ext A B ∧ AOk B ∧ A.free.length ≤ B.free.length + cnt 10 (putM L key v) ∧ IsH B 10 r' (putM L key v)) := by
  obtain ⟨_, h2, h3⟩ := h
  refine ⟨fun hb => ?_, fun hb => ?_⟩
  · rcases h3 L hm hL hap with h | h | h
    · exact ⟨h.2, (h2 (by omega)).2⟩
    · exact absurd hb h.1
    · exact absurd hb h.1
  · rcases h3 L hm hL hap with h | h | h
    · exact absurd h.1 hb
    · exact .inl h.2
    · exact .inr h.2
/-- a put that must go well -/
theorem PutPH.good {A B : Ar} {r key v r' e : Int} {L : List It} (h : PutPH A r key v B r' e) (hA : AOk A) (hL : IsH A 10 r L) (hap : Ap L) (hl : L.length < 9) (hk : -1073741824 ≤ key ∧ key ≤ 1073741824) (hf : 12 * (L.length + 1) ≤ A.free.length) :
    e = 0 ∧ Ext A B ∧ AOk B ∧ A.free.length ≤ B.free.length + cnt 10 (putM L key v) ∧ IsH B 10 r' (putM L key v) := by
  have hs := shL_le key L
  have hc := cnt_le 10 (putM L key v)
  have hpl := putM_len (key := key) (v := v) hap
  have hb : ¬ BadH L key := fun h => h.elim (by omega) (fun h => h.elim (by omega) (fun h => by omega))
  rcases (put_twoH h (tab_of hA hL hap (by omega)) hL hap).2 hb with h | h
  · omega
  · exact h
end Go.Proofs.YtbjmllnddanniaaGreat
set_option linter.unusedVariables false
set_option linter.unusedSimpArgs false
namespace Go.Proofs.YtbjmllnddanniaaGreat
open Go Go.XL
section
variable {σ α : Type} {nx : σ → α → σ × Bool} {s : σ}
theorem pushF_one (z : α) : pushF nx s [z] = nx s z := by
  simp only [pushF]
  split
  · rename_i h; exact Prod.ext rfl h.symm
  · rename_i h; exact Prod.ext rfl (by simpa using h)
theorem pushF_take {ks : List α} {j : Nat} {z : α} (hz : ks[j]? = some z) (h : (pushF nx s (ks.take j)).2 = true) : pushF nx s (ks.take (j + 1)) = nx (pushF nx s (ks.take j)).1 z := by
  rw [List.take_add_one, hz, pushF_app h]; exact pushF_one z
theorem pushF_stop {ks : List α} {j : Nat} (h : (pushF nx s (ks.take j)).2 = false) : pushF nx s ks = pushF nx s (ks.take j) := by
  conv => lhs; rw [← List.take_append_drop j ks]
  exact pushF_l h
theorem pushF_sum {cnt : σ → Nat} {lenK : α → Nat} (h : ∀ s x, cnt (nx s x).1 ≤ cnt s + lenK x) : ∀ (L : List α) (s : σ), cnt (pushF nx s L).1 ≤ cnt s + (L.map lenK).sum
  | [], s => Nat.le_add_right _ _
  | x :: L, s => by
    have h1 := h s x
    rw [pushF, List.map_cons, List.sum_cons]
    split
    · have := pushF_sum h L (nx s x).1; omega
    · simp only []; omega
theorem sum_take {lenK : α → Nat} {ks : List α} {j : Nat} {z : α} (hz : ks[j]? = some z) : ((ks.take j).map lenK).sum + lenK z ≤ (ks.map lenK).sum := by
  have e : (ks.map lenK).sum = ((ks.take (j + 1)).map lenK).sum + ((ks.drop (j + 1)).map lenK).sum := by
    rw [← List.sum_append, ← List.map_append, List.take_append_drop]
  rw [e, List.take_add_one, hz, List.map_append, List.sum_append]
  simp
end
/-- a row of rows -/
theorem pushF_flat {σ α β : Type} {step : σ → β → σ × Bool} (f : α → List β) : ∀ (ks : List α) (s : σ), pushF (fun s z => pushF step s (f z)) s ks = pushF step s (ks.flatMap f)
  | [], s => rfl
  | z :: ks, s => by
    rw [List.flatMap_cons, pushF]
    by_cases h : (pushF step s (f z)).2 = true
    · rw [if_pos h, pushF_app h, pushF_flat f ks]
    · rw [if_neg h, pushF_l (by simpa using h)]
      exact Prod.ext rfl (by simpa using h)
/-- what a function that goes over references owes -/
def IdxT {σ : Type} (g : FuncId) (cs : List Value) (ks : List Int) (cnt : σ → Nat) (N : Nat) (lenK : Int → Nat) (I : World → Prop) (H : σ → Bool → (Nat → Prop) → World → Prop) (nx : σ → Int → σ × Bool) : Prop :=
  ∀ z ∈ ks, ∀ (s : σ) (C M : Nat → Prop) (W : World), cnt s + lenK z ≤ N → Ft M I W → (∀ k, M k → ¬ C k) → Ft C (H s true C) W → FC Tryz.prog g ([u6 z] ++ cs) W (fun v w' => ∃ C', v = .bool (!(nx s z).2) ∧ Ft C' (H (nx s z).1 (nx s z).2 C') w' ∧ Agr C W w' ∧ Up C W C')
theorem c_idxK {σ : Type} (g : FuncId) (hg : calleeOK Tryz.prog g = true) (cs : List Value) (ks : List Int) (a : Option Addr) (c : Nat) (hk : ks.length ≤ 1000) (cnt : σ → Nat) (N : Nat) (lenK : Int → Nat) (I : World → Prop) (H : σ → Bool → (Nat → Prop) → World → Prop) (nx : σ → Int → σ × Bool) (hc : ∀ s x, cnt (nx s x).1 ≤ cnt s + lenK x) (hT : IdxT g cs ks cnt N lenK I H nx) (hI : ∀ u, I u → Sl u a 1 (ks.map fun x => [u6 x]))
    (s : σ) (C M : Nat → Prop) (w : World) (m : Nat) (hm : m = ks.length) (hN : cnt s + (ks.map lenK).sum ≤ N) (hM : Ft M I w) (hMC : ∀ k, M k → ¬ C k) (hH : Ft C (H s true C) w) :
    FC Tryz.prog 241 [.slice a m c, .func (.func g) #[] cs.toArray] w (fun v w' => ∃ C' n, v = .int .i64 n ∧ (0 ≤ n ↔ (pushF nx s ks).2 = false) ∧ Ft C' (H (pushF nx s ks).1 (pushF nx s ks).2 C') w' ∧ Agr C w w' ∧ Up C w C') := by
  subst hm
  have hlen : ks.length < 9223372036854775807 := by omega
  refine FC.intro Tryz.func241 rfl Tryz.ntmps241 rfl ?_
  have G : Agr C w w := Agr.refl _ _
  refine RC.seq ?_
  refine RC.region rfl ?_
  refine RL.ev (.assign rfl) rfl rfl ?_
  refine RL.nil (RC.back ?_)
  refine RC.seq ?_
  refine RC.seq ?_
  refine RC.region rfl ?_
  refine RL.ev (.move rfl) rfl rfl ?_
  refine RL.ev (.len sl73 rfl) rfl rfl ?_
  refine RL.ev (.move rfl) rfl rfl ?_
  refine RL.nil (RC.back ?_)
  refine RC.block ?_
  refine RC.loop (α := Nat × (Nat → Prop)) (fun x => [(0, .slice a ks.length c), (1, .func (.func g) #[] cs.toArray), (7, .int .i64 (ks.length : Int)), (8, .int .i64 (x.1 : Int))]) (fun x w1 => (x.1 ≤ ks.length ∧ (pushF nx s (ks.take x.1)).2 = true) ∧ Ft x.2 (H (pushF nx s (ks.take x.1)).1 true x.2) w1 ∧ Ft M I w1 ∧ (∀ k, M k → ¬ x.2 k) ∧ Agr C w w1 ∧ Up C w x.2) (fun x => ks.length - x.1) (0, C) (keep_of (by repeat (first | exact trivial | refine And.intro rfl ?_))) (⟨⟨Nat.zero_le _, rfl⟩, hH, hM, hMC, G, Up.refl _ _⟩) (fun x w1 hJ => ?_)
  obtain ⟨j, Cj⟩ := x; obtain ⟨⟨hj, ht⟩, hH, hM, hMC, G, up⟩ := hJ; simp only [] at hj ht hH hMC up; have hsl := hI _ hM.now; have hsum := pushF_sum hc (ks.take j) s
  refine RC.seq ?_
  refine RC.region rfl ?_
  refine RL.ev (.bin rfl rfl rfl) rfl rfl ?_
  refine RL.nil (RC.back ?_)
  refine RC.seq ?_
  refine RC.cond_dec rfl (fun h2 => ?_) (fun h2 => ?_)
  ·
    obtain ⟨z, hz⟩ := getSome (l := ks) (i := j) (by omega)
    have hst := sum_take (lenK := lenK) hz
    refine RC.skip (RC.back ?_)
    refine RC.seq ?_
    refine RC.block ?_
    refine RC.seq ?_
    refine RC.region rfl ?_
    refine RL.ev (.move rfl) rfl rfl ?_
    refine RL.ev (.assign rfl) rfl rfl ?_
    refine RL.nil (RC.back ?_)
    refine RC.seq ?_
    refine RC.region rfl ?_
    refine RL.ev (.move rfl) rfl rfl ?_
    refine RL.ev (.move rfl) rfl rfl ?_
    refine RL.ev (.move rfl) rfl rfl ?_
    refine RL.ev (.indexS sl73 rfl rfl (by omega) (hsl.is (i := j) (by simp only [List.length_map]; omega))) rfl rfl ?_
    refine RL.ev (.load1 sh31 rfl (hsl.one (enc := u6) (i := j) hz)) rfl rfl ?_
    refine RL.callv rfl rfl (us := []) (cs := cs) hg (hT z (List.mem_of_getElem? hz) _ Cj M w1 (by omega) hM hMC hH) rfl rfl ?_
    rintro _ w3 ⟨C1, rfl, hH1, ag, up1⟩
    have hMC1 : ∀ k, M k → ¬ C1 k := fun k hk => up1.not (hM.lt k hk) (hMC k hk)
    have hM := hM.step ag hMC
    have up1 := up.trans (up1.le G.size)
    have G := G.up up ag
    rw [← pushF_take hz ht] at hH1
    have hH := hH1
    rw [← pushF_take hz ht]
    refine RL.nil (RC.back ?_)
    refine RC.cond rfl (fun h5 => ?_) (fun h5 => ?_)
    ·
      have q1 : (pushF nx s (ks.take (j + 1))).2 = false := (by simpa using h5)
      have hpe := pushF_stop q1
      refine RC.seq ?_
      refine RC.region rfl ?_
      refine RL.ev (.move rfl) rfl rfl ?_
      refine RL.ev (.assign rfl) rfl rfl ?_
      refine RL.nil (RC.back ?_)
      refine RC.done (rs := [.tmp 4]) (vs := [_]) rfl rfl ⟨rfl, trivial⟩ ?_
      -- end 1
      rw [hpe]
      exact ⟨C1, (j : Int), rfl, ⟨fun _ => q1, fun _ => by omega⟩, hH, G, up1⟩
    ·
      have q1 : (pushF nx s (ks.take (j + 1))).2 = true := (by simpa using h5)
      refine RC.skip (RC.back ?_)
      refine RC.region rfl ?_
      refine RL.ev (.as (.bin rfl rfl rfl) (wi64 (y := ((j + 1 : Nat) : Int)) (by omega) (by omega))) rfl rfl ?_
      refine RL.ev (.move rfl) rfl rfl ?_
      exact RL.nil (fun a ka => ⟨(j + 1, C1), ⟨⟨by simp only []; omega, q1⟩, (by rw [q1] at hH; exact hH), hM, hMC1, G, up1⟩, by omega, ka.keep (keep_of (by repeat (first | exact trivial | refine And.intro rfl ?_)))⟩)
  ·
    obtain rfl : j = ks.length := (by omega)
    rw [List.take_length] at ht hH
    refine RC.exit rfl (RC.back ?_)
    refine RC.seq ?_
    refine RC.region rfl ?_
    refine RL.ev (.assign rfl) rfl rfl ?_
    refine RL.nil (RC.back ?_)
    refine RC.done (rs := [.tmp 4]) (vs := [_]) rfl rfl ⟨rfl, trivial⟩ ?_
    -- end 2
    exact ⟨Cj, -1, rfl, ⟨fun h => by omega, fun h => by rw [ht] at h; cases h⟩, (by rw [ht]; exact hH), G, up⟩
theorem c_containsK {σ : Type} (g : FuncId) (hg : calleeOK Tryz.prog g = true) (cs : List Value) (ks : List Int) (a : Option Addr) (c : Nat) (hk : ks.length ≤ 1000) (cnt : σ → Nat) (N : Nat) (lenK : Int → Nat) (I : World → Prop) (H : σ → Bool → (Nat → Prop) → World → Prop) (nx : σ → Int → σ × Bool) (hc : ∀ s x, cnt (nx s x).1 ≤ cnt s + lenK x) (hT : IdxT g cs ks cnt N lenK I H nx) (hI : ∀ u, I u → Sl u a 1 (ks.map fun x => [u6 x]))
    (s : σ) (C M : Nat → Prop) (w : World) (m : Nat) (hm : m = ks.length) (hN : cnt s + (ks.map lenK).sum ≤ N) (hM : Ft M I w) (hMC : ∀ k, M k → ¬ C k) (hH : Ft C (H s true C) w) :
    FC Tryz.prog 186 [.slice a m c, .func (.func g) #[] cs.toArray] w (fun v w' => ∃ C', v = .bool (!(pushF nx s ks).2) ∧ Ft C' (H (pushF nx s ks).1 (pushF nx s ks).2 C') w' ∧ Agr C w w' ∧ Up C w C') := by
  refine FC.intro Tryz.func186 rfl Tryz.ntmps186 rfl ?_
  refine RC.seq ?_
  refine RC.region rfl ?_
  refine RL.ev (.assign rfl) rfl rfl ?_
  refine RL.nil (RC.back ?_)
  refine RC.seq ?_
  refine RC.region rfl ?_
  refine RL.ev (.move rfl) rfl rfl ?_
  refine RL.ev (.move rfl) rfl rfl ?_
  refine RL.call rfl ok241 (c_idxK g hg cs ks a c hk cnt N lenK I H nx hc hT hI s C M w m hm hN hM hMC hH) rfl rfl ?_
  rintro _ w1 ⟨C1, n, rfl, hn, hH1, ag, up⟩
  refine RL.ev (.as (v' := .bool (!(pushF nx s ks).2)) (.bin rfl rfl rfl) (by exact congrArg Value.bool (by rw [Bool.eq_iff_iff, decide_eq_true_iff, hn, Bool.not_eq_true']))) rfl rfl ?_
  refine RL.ev (.assign rfl) rfl rfl ?_
  refine RL.nil (RC.back ?_)
  refine RC.done (rs := [.tmp 4]) (vs := [_]) rfl rfl ⟨rfl, trivial⟩ ?_
  -- end 1
  exact ⟨C1, rfl, hH1, ag, up⟩
/-- what is read while a table's keys are handed on -/
def PuI (na fa : Option Addr) (nc fc : Nat) (A : Ar) (l b3 b5 b7 : Nat) (y : Node) (u : World) : Prop :=
  ArR u na fa A ∧ Has u b3 [.slice na A.nodes.length nc, .slice fa A.free.length fc] 26 ∧ Has u b5 [.func (.yield l) #[] #[]] 198 ∧ Has u b7 y.cells 140
/-- a push of a reference's keys -/
def PuT {σ : Type} (l : Nat) (H : σ → Bool → (Nat → Prop) → World → Prop) (step : σ → It → σ × Bool) (cnt : σ → Nat) (N : Nat) (A : Ar) (na fa : Option Addr) (nc fc : Nat) (r : Int) (L : List It) : Prop :=
  ∀ (s : σ) (C M : Nat → Prop) (w : World), cnt s + L.length ≤ N → Ft M (fun u => ArR u na fa A) w → (∀ k, M k → ¬ C k) → Ft C (H s true C) w →
    FC Tryz.prog 113 [arV na fa nc fc A, .int .u64 r, .func (.yield l) #[] #[]] w (fun v w' => ∃ C', v = .bool (pushF step s L).2 ∧ Ft C' (H (pushF step s L).1 (pushF step s L).2 C') w' ∧ Agr C w w' ∧ Up C w C')
theorem c_push1W {σ : Type} (l : Nat) (H : σ → Bool → (Nat → Prop) → World → Prop) (step : σ → It → σ × Bool) (cnt : σ → Nat) (N : Nat) (hc : ∀ s x, cnt (step s x).1 ≤ cnt s + 1) (hT : YT Tryz.prog l It.val It.ok cnt N H step) (A : Ar) (na fa : Option Addr) (nc fc : Nat) (b3 b5 b7 : Nat) (y : Node) (z : Int) (L : List It) (hp : PuT l H step cnt N A na fa nc fc z L) (s : σ) (C M : Nat → Prop) (w : World) (hN : cnt s + L.length ≤ N) (hM : Ft M (PuI na fa nc fc A l b3 b5 b7 y) w) (hMC : ∀ k, M k → ¬ C k) (hH : Ft C (H s true C) w) :
    FC Tryz.prog 187 ([u6 z] ++ [.pointer (some ⟨b3, 0, none⟩), .pointer (some ⟨b5, 0, none⟩)]) w (fun v w' => ∃ C', v = .bool (!(pushF step s L).2) ∧ Ft C' (H (pushF step s L).1 (pushF step s L).2 C') w' ∧ Agr C w w' ∧ Up C w C') := by
  obtain ⟨hA, h3, h5, h7⟩ := hM.now
  refine FC.intro Tryz.func187 rfl Tryz.ntmps187 rfl ?_
  refine RC.seq ?_
  refine RC.region rfl ?_
  refine RL.ev (.assign rfl) rfl rfl ?_
  refine RL.nil (RC.back ?_)
  refine RC.seq ?_
  refine RC.region rfl ?_
  refine RL.ev (.loadR ([.slice na A.nodes.length nc, .slice fa A.free.length fc]) sh26 rfl h3.row rfl) rfl rfl ?_
  refine RL.ev (.move rfl) rfl rfl ?_
  refine RL.ev (.load1 sh198 rfl (h5.cell rfl)) rfl rfl ?_
  refine RL.call rfl ok113 (hp s C M w hN (hM.imp fun u h => h.1) hMC hH) rfl rfl ?_
  rintro _ w1 ⟨C1, rfl, hH1, ag, up⟩
  refine RL.ev (.not rfl) rfl rfl ?_
  refine RL.ev (.assign rfl) rfl rfl ?_
  refine RL.nil (RC.back ?_)
  refine RC.done (rs := [.tmp 4]) (vs := [_]) rfl rfl ⟨rfl, trivial⟩ ?_
  -- end 1
  exact ⟨C1, rfl, hH1, ag, up⟩
theorem c_pushNil {σ : Type} (l : Nat) (H : σ → Bool → (Nat → Prop) → World → Prop) (step : σ → It → σ × Bool) (cnt : σ → Nat) (N : Nat) (hc : ∀ s x, cnt (step s x).1 ≤ cnt s + 1) (hT : YT Tryz.prog l It.val It.ok cnt N H step) (A : Ar) (na fa : Option Addr) (nc fc : Nat) (s0 : Unit) : PuT l H step cnt N A na fa nc fc 0 [] := by
  intro s C M w hN hA hMC hH
  refine FC.introY Tryz.func113 rfl Tryz.ntmps113 rfl ?_
  have G : Agr C w w := Agr.refl _ _
  refine RC.seq ?_
  refine RC.region rfl ?_
  refine RL.box rfl rfl rfl (fun b_3 w_3 e_3 z_3 hb_3 s_3 => ?_)
  have d_hH_b_3 := hH.neNew e_3
  have geG_3 := agLe G e_3
  have G := G.trans s_3.agr
  have hH := hH.sub s_3
  have hb_3 : Has w_3 b_3 ([.slice na A.nodes.length nc, .slice fa A.free.length fc]) _ := hb_3
  refine RL.box rfl rfl rfl (fun b_5 w_5 e_5 z_5 hb_5 s_5 => ?_)
  have n_3__5 := hb_3.ne e_5
  have d_hH_b_5 := hH.neNew e_5
  have geG_5 := agLe G e_5
  have G := G.trans s_5.agr
  have hH := hH.sub s_5
  have hb_3 := hb_3.sub s_5
  refine RL.ev (.assign rfl) rfl rfl ?_
  refine RL.nil (RC.back ?_)
  refine RC.seq ?_
  refine RC.seq ?_
  refine RC.region rfl ?_
  refine RL.ev (.move rfl) rfl rfl ?_
  refine RL.ev (.bin rfl rfl rfl) rfl rfl ?_
  refine RL.nil (RC.back ?_)
  refine RC.cond_dec rfl (fun h1 => ?_) (fun h1 => ?_)
  ·
    refine RC.seq ?_
    refine RC.region rfl ?_
    refine RL.ev (.assign rfl) rfl rfl ?_
    refine RL.nil (RC.back ?_)
    refine RC.done (rs := [.tmp 6]) (vs := [_]) rfl rfl ⟨rfl, trivial⟩ ?_
    -- end 1
    exact ⟨C, rfl, hH, G, Up.refl _ _⟩
  ·
    exact absurd rfl h1
theorem c_pushLeaf {σ : Type} (l : Nat) (H : σ → Bool → (Nat → Prop) → World → Prop) (step : σ → It → σ × Bool) (cnt : σ → Nat) (N : Nat) (hc : ∀ s x, cnt (step s x).1 ≤ cnt s + 1) (hT : YT Tryz.prog l It.val It.ok cnt N H step) (A : Ar) (na fa : Option Addr) (nc fc : Nat) (r : Int) (hr : U64 r) (x : It) (hx : lfA A r x) : PuT l H step cnt N A na fa nc fc r [x] := by
  intro s C M w hNn hA hMC hH
  obtain ⟨g, hg⟩ := hx
  have hyo := hA.now.nok _ (getA_nok hg)
  have hr0 := getA_nz hg
  have hCw : ∀ k, C k → k < w.heap.size := hH.lt
  rw [List.length_singleton] at hNn
  refine FC.introY Tryz.func113 rfl Tryz.ntmps113 rfl ?_
  have G : Agr C w w := Agr.refl _ _
  refine RC.seq ?_
  refine RC.region rfl ?_
  refine RL.box rfl rfl rfl (fun b_3 w_3 e_3 z_3 hb_3 s_3 => ?_)
  have d_hA_b_3 := hA.neNew e_3
  have d_hH_b_3 := hH.neNew e_3
  have geG_3 := agLe G e_3
  have G := G.trans s_3.agr
  have hA := hA.sub s_3
  have hH := hH.sub s_3
  have hb_3 : Has w_3 b_3 ([.slice na A.nodes.length nc, .slice fa A.free.length fc]) _ := hb_3
  refine RL.box rfl rfl rfl (fun b_5 w_5 e_5 z_5 hb_5 s_5 => ?_)
  have n_3__5 := hb_3.ne e_5
  have d_hA_b_5 := hA.neNew e_5
  have d_hH_b_5 := hH.neNew e_5
  have geG_5 := agLe G e_5
  have G := G.trans s_5.agr
  have hA := hA.sub s_5
  have hH := hH.sub s_5
  have hb_3 := hb_3.sub s_5
  refine RL.ev (.assign rfl) rfl rfl ?_
  refine RL.nil (RC.back ?_)
  refine RC.seq ?_
  refine RC.seq ?_
  refine RC.region rfl ?_
  refine RL.ev (.move rfl) rfl rfl ?_
  refine RL.ev (.bin rfl rfl rfl) rfl rfl ?_
  refine RL.nil (RC.back ?_)
  refine RC.cond_dec rfl (fun h1 => ?_) (fun h1 => ?_)
  ·
    exact absurd h1 hr0
  ·
    refine RC.skip (RC.back ?_)
    refine RC.seq ?_
    refine RC.region rfl ?_
    refine RL.ev (.loadR ([.slice na A.nodes.length nc, .slice fa A.free.length fc]) sh26 rfl hb_3.row rfl) rfl rfl ?_
    refine RL.ev (.move rfl) rfl rfl ?_
    refine RL.call rfl ok125 (c_aGet A na fa nc fc r hr w_5 hA.now) rfl rfl ?_
    rintro _ w2 ⟨rfl, s3⟩
    have G := G.trans s3.agr
    have hA := hA.sub s3
    have hH := hH.sub s3
    have hb_3 := hb_3.sub s3
    have hb_5 := hb_5.sub s3
    refine RL.ev (.as (v' := .tuple #[(hN 3 g x.k x.v 0 []).val, .int .i64 0]) (.move rfl) (by rw [getV_yes hg])) rfl rfl ?_
    refine RL.ev (.extract rfl rfl) rfl rfl ?_
    refine RL.ev (.extract rfl rfl) rfl rfl ?_
    refine RL.alloc ze140 rfl rfl (fun b_7 w_7 e_7 z_7 hb_7 s_7 => ?_)
    have n_3__7 := hb_3.ne e_7
    have n_5__7 := hb_5.ne e_7
    have d_hA_b_7 := hA.neNew e_7
    have d_hH_b_7 := hH.neNew e_7
    have geG_7 := agLe G e_7
    have G := G.trans s_7.agr
    have hA := hA.sub s_7
    have hH := hH.sub s_7
    have hb_3 := hb_3.sub s_7
    have hb_5 := hb_5.sub s_7
    refine RL.store sh140 rfl rfl rfl hb_7 (by exact Nat.le_of_ble_eq_true rfl) (by rfl) rfl (fun w4 z4 hb_7 a4 => ?_)
    have G := agNew G a4 geG_7
    have hA := hA.updD a4 d_hA_b_7
    have hH := hH.updD a4 d_hH_b_7
    have hb_3 := hb_3.upd a4 n_3__7
    have hb_5 := hb_5.upd a4 n_5__7
    have hb_7 : Has w4 b_7 ((hN 3 g x.k x.v 0 []).cells) _ := hb_7.now (by kernel_rfl)
    refine RL.ev (.assign rfl) rfl rfl ?_
    refine RL.nil (RC.back ?_)
    refine RC.seq ?_
    refine RC.seq ?_
    refine RC.region rfl ?_
    refine RL.ev (.field0 fo140_0 rfl) rfl rfl ?_
    refine RL.ev (.load1 sh3 rfl (hb_7.cell rfl)) rfl rfl ?_
    refine RL.ev (.as (v' := .bool true) (.bin rfl rfl rfl) (congrArg Value.bool (decide_eq_true (rfl)))) rfl rfl ?_
    refine RL.nil (RC.back ?_)
    refine RC.cond_t rfl ?_
    refine RC.seq ?_
    refine RC.region rfl ?_
    refine RL.ev (.load1 sh198 rfl (hb_5.cell rfl)) rfl rfl ?_
    refine RL.ev (.field0 fo140_2 rfl) rfl rfl ?_
    refine RL.ev (.load1 sh2 rfl (hb_7.cell rfl)) rfl rfl ?_
    refine RL.ev (.field0 fo140_3 rfl) rfl rfl ?_
    refine RL.ev (.load1 sh2 rfl (hb_7.cell rfl)) rfl rfl ?_
    refine RL.ev (.as (v' := x.val) (.buildS ze51 pl51 rfl rfl) (by rfl)) rfl rfl ?_
    refine RL.yield rfl rfl (hT s x C w4 ⟨hyo.n, hyo.v⟩ (by omega) hH) rfl rfl ?_
    rintro _ w5 ⟨C2, rfl, hH2, ag2, up2⟩
    have up2 := up2.le G.size
    have G := G.trans ag2
    refine RL.ev (.assign rfl) rfl rfl ?_
    refine RL.nil (RC.back ?_)
    refine RC.done (rs := [.tmp 6]) (vs := [_]) rfl rfl ⟨rfl, trivial⟩ ?_
    -- end 1
    rw [pushF_one]
    exact ⟨C2, rfl, hH2, G, up2⟩
theorem c_pushNode {σ : Type} (l : Nat) (H : σ → Bool → (Nat → Prop) → World → Prop) (step : σ → It → σ × Bool) (cnt : σ → Nat) (N : Nat) (hc : ∀ s x, cnt (step s x).1 ≤ cnt s + 1) (hT : YT Tryz.prog l It.val It.ok cnt N H step) (A : Ar) (na fa : Option Addr) (nc fc : Nat) (r : Int) (hr : U64 r) (y : Node) (hy : getA A r = some y) (h3 : ¬ y.kind = 3) (f : Int → List It) (hf : ∀ z ∈ y.kids, PuT l H step cnt N A na fa nc fc z (f z)) : PuT l H step cnt N A na fa nc fc r (y.kids.flatMap f) := by
  intro s C M w hN hA hMC hH
  have hyo := hA.now.nok _ (getA_nok hy)
  have hr0 := getA_nz hy
  have hCw : ∀ k, C k → k < w.heap.size := hH.lt
  have hfl : (y.kids.flatMap f).length = (y.kids.map fun z => (f z).length).sum := by rw [List.length_flatMap]
  refine FC.introY Tryz.func113 rfl Tryz.ntmps113 rfl ?_
  have G : Agr C w w := Agr.refl _ _
  refine RC.seq ?_
  refine RC.region rfl ?_
  refine RL.box rfl rfl rfl (fun b_3 w_3 e_3 z_3 hb_3 s_3 => ?_)
  have d_hA_b_3 := hA.neNew e_3
  have d_hH_b_3 := hH.neNew e_3
  have geG_3 := agLe G e_3
  have G := G.trans s_3.agr
  have hA := hA.sub s_3
  have hH := hH.sub s_3
  have hb_3 : Has w_3 b_3 ([.slice na A.nodes.length nc, .slice fa A.free.length fc]) _ := hb_3
  refine RL.box rfl rfl rfl (fun b_5 w_5 e_5 z_5 hb_5 s_5 => ?_)
  have n_3__5 := hb_3.ne e_5
  have d_hA_b_5 := hA.neNew e_5
  have d_hH_b_5 := hH.neNew e_5
  have geG_5 := agLe G e_5
  have G := G.trans s_5.agr
  have hA := hA.sub s_5
  have hH := hH.sub s_5
  have hb_3 := hb_3.sub s_5
  refine RL.ev (.assign rfl) rfl rfl ?_
  refine RL.nil (RC.back ?_)
  refine RC.seq ?_
  refine RC.seq ?_
  refine RC.region rfl ?_
  refine RL.ev (.move rfl) rfl rfl ?_
  refine RL.ev (.bin rfl rfl rfl) rfl rfl ?_
  refine RL.nil (RC.back ?_)
  refine RC.cond_dec rfl (fun h1 => ?_) (fun h1 => ?_)
  ·
    exact absurd h1 hr0
  ·
    refine RC.skip (RC.back ?_)
    refine RC.seq ?_
    refine RC.region rfl ?_
    refine RL.ev (.loadR ([.slice na A.nodes.length nc, .slice fa A.free.length fc]) sh26 rfl hb_3.row rfl) rfl rfl ?_
    refine RL.ev (.move rfl) rfl rfl ?_
    refine RL.call rfl ok125 (c_aGet A na fa nc fc r hr w_5 hA.now) rfl rfl ?_
    rintro _ w2 ⟨rfl, s3⟩
    have G := G.trans s3.agr
    have hA := hA.sub s3
    have hH := hH.sub s3
    have hb_3 := hb_3.sub s3
    have hb_5 := hb_5.sub s3
    refine RL.ev (.as (v' := .tuple #[y.val, .int .i64 0]) (.move rfl) (by rw [getV_yes hy])) rfl rfl ?_
    refine RL.ev (.extract rfl rfl) rfl rfl ?_
    refine RL.ev (.extract rfl rfl) rfl rfl ?_
    refine RL.alloc ze140 rfl rfl (fun b_7 w_7 e_7 z_7 hb_7 s_7 => ?_)
    have n_3__7 := hb_3.ne e_7
    have n_5__7 := hb_5.ne e_7
    have d_hA_b_7 := hA.neNew e_7
    have d_hH_b_7 := hH.neNew e_7
    have geG_7 := agLe G e_7
    have G := G.trans s_7.agr
    have hA := hA.sub s_7
    have hH := hH.sub s_7
    have hb_3 := hb_3.sub s_7
    have hb_5 := hb_5.sub s_7
    refine RL.store sh140 rfl rfl rfl hb_7 (by exact Nat.le_of_ble_eq_true rfl) (by rfl) rfl (fun w4 z4 hb_7 a4 => ?_)
    have G := agNew G a4 geG_7
    have hA := hA.updD a4 d_hA_b_7
    have hH := hH.updD a4 d_hH_b_7
    have hb_3 := hb_3.upd a4 n_3__7
    have hb_5 := hb_5.upd a4 n_5__7
    have hb_7 : Has w4 b_7 (y.cells) _ := hb_7.now (by kernel_rfl)
    refine RL.ev (.assign rfl) rfl rfl ?_
    refine RL.nil (RC.back ?_)
    refine RC.seq ?_
    refine RC.seq ?_
    refine RC.region rfl ?_
    refine RL.ev (.field0 fo140_0 rfl) rfl rfl ?_
    refine RL.ev (.load1 sh3 rfl (hb_7.cell rfl)) rfl rfl ?_
    refine RL.ev (.as (v' := .bool false) (.bin rfl rfl rfl) (congrArg Value.bool (decide_eq_false (h3)))) rfl rfl ?_
    refine RL.nil (RC.back ?_)
    refine RC.cond_f rfl ?_
    refine RC.skip (RC.back ?_)
    refine RC.seq ?_
    refine RC.region rfl ?_
    refine RL.ev (.field0 fo140_5 rfl) rfl rfl ?_
    refine RL.ev (.sliceArr ar138 rfl) rfl rfl ?_
    refine RL.ev (.func (xs := []) (ys := [_, _]) rfl rfl) rfl rfl ?_
    refine RL.call rfl ok186 (c_containsK 187 ok187 [.pointer (some ⟨b_3, 0, none⟩), .pointer (some ⟨b_5, 0, none⟩)] y.kids (some ⟨b_7, 5, none⟩) 9 (Nat.le_of_ble_eq_true rfl) cnt N (fun z => (f z).length) (PuI na fa nc fc A l b_3 b_5 b_7 y) H (fun s z => pushF step s (f z)) (fun s z => pushF_cnt hc (f z) s) (fun z hz s C M W q1 q2 q3 q4 => c_push1W l H step cnt N hc hT A na fa nc fc b_3 b_5 b_7 y z (f z) (hf z hz) s C M W q1 q2 q3 q4) (fun u h => Has.slPart (enc := u6) (l := y.kids) (pre := [i6 y.kind, i6 y.gen, i6 y.n, i6 y.v, i6 y.s]) (post := [i6 y.pre, i6 y.suf]) h.2.2.2 rfl) s C (fun k => M k ∨ k = b_3 ∨ k = b_5 ∨ k = b_7) w4 9 rfl (by omega) (hA.and (hb_3.ft.and (hb_5.ft.and hb_7.ft))) (fun k hk hC => by rcases hk with hk | hk | hk | hk; exact hMC k hk hC; all_goals (have := hCw k hC; omega)) hH) rfl rfl ?_
    rintro _ w5 ⟨C2, rfl, hH2, ag2, up2⟩
    have up2 := up2.le G.size
    have G := G.trans ag2
    rw [pushF_flat f] at hH2
    rw [pushF_flat f]
    refine RL.ev (.not rfl) rfl rfl ?_
    refine RL.ev (.assign rfl) rfl rfl ?_
    refine RL.nil (RC.back ?_)
    refine RC.done (rs := [.tmp 6]) (vs := [_]) rfl rfl ⟨rfl, trivial⟩ ?_
    -- end 1
    exact ⟨C2, by rw [Bool.not_not]; rfl, hH2, G, up2⟩
end Go.Proofs.YtbjmllnddanniaaGreat
set_option linter.unusedVariables false
set_option linter.unusedSimpArgs false
namespace Go.Proofs.YtbjmllnddanniaaGreat
open Go Go.XL
/-- a table's keys and values, in the order of its nodes -/
def rowH (A : Ar) (r : Int) : List It := rdF A 12 r
theorem rowH_perm {A : Ar} {r : Int} {L : List It} (h : IsH A 10 r L) : (rowH A r).Perm L := rd_perm (k := 10) (f := 0) h
theorem c_pushAll {σ : Type} (l : Nat) (H : σ → Bool → (Nat → Prop) → World → Prop) (step : σ → It → σ × Bool) (cnt : σ → Nat) (N : Nat) (hc : ∀ s x, cnt (step s x).1 ≤ cnt s + 1) (hT : YT Tryz.prog l It.val It.ok cnt N H step) (A : Ar) (na fa : Option Addr) (nc fc : Nat) (hn : ∀ x ∈ A.nodes, x.ok) : ∀ (k : Nat) (r : Int) (L : List It), IsH A k r L → U64 r → PuT l H step cnt N A na fa nc fc r (rdF A (k + 2) r)
  | k, r, L, h, hr => by
    have zero : ∀ F, PuT l H step cnt N A na fa nc fc 0 (rdF A F 0) := fun F => by
      rw [rdF_no (getA_z A)]; exact c_pushNil l H step cnt N hc hT A na fa nc fc ()
    rcases row_cases L with rfl | ⟨x, rfl⟩ | h2
    · rw [isH_nil.1 h]; exact zero _
    · rw [rdF_leaf (isH_one.1 h)]; exact c_pushLeaf l H step cnt N hc hT A na fa nc fc r hr x (isH_one.1 h)
    · cases k with
      | zero =>
        obtain ⟨y, m, q1, q2, _, _, _, _, q6, q7, q8⟩ := clash_node ((isH_clash h2).1 h) h2
        have hyo := hn _ (getA_nok q1)
        rw [rdF_node q1 (by omega)]
        refine c_pushNode l H step cnt N hc hT A na fa nc fc r hr y q1 (by omega) _ fun z hz => ?_
        obtain ⟨j, hj⟩ := List.getElem?_of_mem hz
        have hj9 : j < 9 := lt_of_get hj
        by_cases hjm : j < m.length
        · obtain ⟨x, hx⟩ := getSome (l := m) hjm
          have h6 := q7 j x hx
          rw [kid_get hj] at h6
          rw [rdF_leaf h6]
          exact c_pushLeaf l H step cnt N hc hT A na fa nc fc z (hyo.kids z hz) x h6
        · have h6 := q8 j (by omega) hj9
          rw [kid_get hj] at h6
          rw [h6]; exact zero _
      | succ k =>
        obtain ⟨y, q1, q2, _, q4, q5⟩ := trie_zero h h2
        have hyo := hn _ (getA_nok q1)
        rw [show k + 1 + 2 = (k + 2) + 1 by omega, rdF_node q1 (by omega)]
        refine c_pushNode l H step cnt N hc hT A na fa nc fc r hr y q1 (by omega) _ fun z hz => ?_
        obtain ⟨j, hj⟩ := List.getElem?_of_mem hz
        have hj9 : j < 9 := lt_of_get hj
        by_cases hj4 : j < 4
        · have h6 := q4 j hj4
          rw [kid_get hj] at h6
          exact c_pushAll l H step cnt N hc hT A na fa nc fc hn k z _ h6 (hyo.kids z hz)
        · have h6 := q5 j (by omega) hj9
          rw [kid_get hj] at h6
          rw [h6]; exact zero _
theorem c_wleaves1 {σ : Type} (l : Nat) (H : σ → Bool → (Nat → Prop) → World → Prop) (step : σ → It → σ × Bool) (cnt : σ → Nat) (N : Nat) (hc : ∀ s x, cnt (step s x).1 ≤ cnt s + 1) (hT : YT Tryz.prog l It.val It.ok cnt N H step) (A : Ar) (na fa : Option Addr) (nc fc : Nat) (r : Int) (hr : U64 r) (L : List It) (hL : IsH A 10 r L) (s : σ) (C M : Nat → Prop) (b2 b3 : Nat) (w : World) (hN : cnt s + L.length ≤ N) (hA : Ft M (fun u => ArR u na fa A) w) (hMC : ∀ k, M k → ¬ C k) (hH : Ft C (H s true C) w)
    (h2 : Has w b2 [.slice na A.nodes.length nc, .slice fa A.free.length fc] 26) (h3 : Has w b3 [.int .u64 r] 31) :
    FC Tryz.prog 112 [.func (.yield l) #[] #[], .pointer (some ⟨b2, 0, none⟩), .pointer (some ⟨b3, 0, none⟩)] w (fun _ w' => ∃ C', Ft C' (H (pushF step s (rowH A r)).1 (pushF step s (rowH A r)).2 C') w' ∧ Agr C w w' ∧ Up C w C') := by
  have hlen := (rowH_perm hL).length_eq
  refine FC.intro Tryz.func112 rfl Tryz.ntmps112 rfl ?_
  refine RC.region rfl ?_
  refine RL.ev (.loadR ([.slice na A.nodes.length nc, .slice fa A.free.length fc]) sh26 rfl h2.row rfl) rfl rfl ?_
  refine RL.ev (.load1 sh31 rfl (h3.cell rfl)) rfl rfl ?_
  refine RL.ev (.move rfl) rfl rfl ?_
  refine RL.call rfl ok113 (c_pushAll l H step cnt N hc hT A na fa nc fc hA.now.nok 10 r L hL hr s C M w (by show cnt s + (rowH A r).length ≤ N; omega) hA hMC hH) rfl rfl ?_
  rintro _ w1 ⟨C1, rfl, hH1, ag, up⟩
  refine RL.nil ?_
  refine fun a ka => ⟨ka.defers, _, run_results (rs := []) (vs := []) ka rfl trivial, ?_⟩
  -- end 1
  exact ⟨C1, hH1, ag, up⟩
theorem c_wleaves (A : Ar) (na fa : Option Addr) (nc fc : Nat) (r : Int) (w : World) :
    FC Tryz.prog 53 [arV na fa nc fc A, .int .u64 r] w (fun v w' => ∃ b2 b3, v = .func (.func 112) #[] #[.pointer (some ⟨b2, 0, none⟩), .pointer (some ⟨b3, 0, none⟩)] ∧ Has w' b2 [.slice na A.nodes.length nc, .slice fa A.free.length fc] 26 ∧ Has w' b3 [.int .u64 r] 31 ∧ Sub w w') := by
  refine FC.intro Tryz.func53 rfl Tryz.ntmps53 rfl ?_
  have S := Sub.refl w
  refine RC.seq ?_
  refine RC.region rfl ?_
  refine RL.box rfl rfl rfl (fun b_2 w_2 e_2 z_2 hb_2 s_2 => ?_)
  have ge_2 := S.le e_2
  have S := S.trans s_2
  have hb_2 : Has w_2 b_2 ([.slice na A.nodes.length nc, .slice fa A.free.length fc]) _ := hb_2
  refine RL.box rfl rfl rfl (fun b_3 w_3 e_3 z_3 hb_3 s_3 => ?_)
  have ge_3 := S.le e_3
  have n_2__3 := hb_2.ne e_3
  have S := S.trans s_3
  have hb_2 := hb_2.sub s_3
  refine RL.ev (.assign rfl) rfl rfl ?_
  refine RL.nil (RC.back ?_)
  refine RC.seq ?_
  refine RC.region rfl ?_
  refine RL.ev (.func (xs := []) (ys := [_, _]) rfl rfl) rfl rfl ?_
  refine RL.ev (.assign rfl) rfl rfl ?_
  refine RL.nil (RC.back ?_)
  refine RC.done (rs := [.tmp 4]) (vs := [_]) rfl rfl ⟨rfl, trivial⟩ ?_
  -- end 1
  exact ⟨b_2, b_3, rfl, hb_2, hb_3, S⟩
def stCol (s : List It) (x : It) : List It × Bool := (s ++ [x], true)
theorem push_col : ∀ (l s : List It), pushF stCol s l = (s ++ l, true)
  | [], s => by rw [List.append_nil]; rfl
  | x :: l, s => by rw [pushF_t rfl, push_col l]; simp [stCol]
theorem stCol_cnt (s : List It) (x : It) : (stCol s x).1.length ≤ s.length + 1 := by simp [stCol]
/-- how the boxes stand between two rounds -/
def HCol (l : Nat) (rL : Loop) (b2 base : Nat) (rows : List It) (b : Bool) (C : Nat → Prop) (W : World) : Prop :=
  ∃ v, (Lp l (recB rL 0 b) W ∧ Has W b2 [v] 42 ∧ Ows base W 51 2 v (rows.map It.cells)) ∧ (∀ k, ob v = some k → k ≠ l ∧ k ≠ b2) ∧ ∀ k, C k ↔ (k = l ∨ k = b2 ∨ ob v = some k)
theorem HCol.ft {l : Nat} {rL : Loop} {b2 base : Nat} {rows : List It} {b : Bool} {C : Nat → Prop} {W : World} {v : Value} (hC : ∀ k, C k ↔ (k = l ∨ k = b2 ∨ ob v = some k))
    (h1 : Lp l (recB rL 0 b) W) (h2 : Has W b2 [v] 42) (h5 : Ows base W 51 2 v (rows.map It.cells)) (hob : ∀ k, ob v = some k → k ≠ l ∧ k ≠ b2) :
    Ft C (HCol l rL b2 base rows b C) W := by
  refine ⟨fun k hk => ?_, fun u a => ⟨v, ⟨h1.step a (fun hn => hn ((hC _).2 (.inl rfl))), h2.step a (fun hn => hn ((hC _).2 (.inr (.inl rfl)))), h5.step a (fun k hk hn => hn ((hC k).2 (.inr (.inr hk))))⟩, hob, hC⟩⟩
  rcases (hC k).1 hk with rfl | rfl | h
  · exact h1.lt
  · exact h2.lt
  · exact (h5.ge k h).2
theorem c_appendSeq (A : Ar) (na fa : Option Addr) (nc fc : Nat) (r : Int) (hr : U64 r) (L : List It) (hTT : IsH A 10 r L) (hl : L.length ≤ 200) (bA bR : Nat) (w : World) (hA : ArR w na fa A) (hbA : Has w bA [.slice na A.nodes.length nc, .slice fa A.free.length fc] 26) (hbR : Has w bR [.int .u64 r] 31) :
    FC Tryz.prog 111 [.slice none 0 0, .func (.func 112) #[] #[.pointer (some ⟨bA, 0, none⟩), .pointer (some ⟨bR, 0, none⟩)]] w (fun v w' => Sub w w' ∧ ∃ a c, v = .slice a ((rowH A r).map It.cells).length c ∧ Ows w.heap.size w' 51 2 (.slice a ((rowH A r).map It.cells).length c) ((rowH A r).map It.cells)) := by
  refine FC.introM Tryz.func111 rfl Tryz.ntmps111 rfl ?_
  have S := Sub.refl w
  refine RC.seq ?_
  refine RC.region rfl ?_
  refine RL.box rfl rfl rfl (fun b_2 w_2 e_2 z_2 hb_2 s_2 => ?_)
  have ge_2 := S.le e_2
  have S := S.trans s_2
  refine RL.ev (.assign rfl) rfl rfl ?_
  refine RL.nil (RC.back ?_)
  refine RC.seq ?_
  refine RC.seq ?_
  refine RC.region rfl ?_
  refine RL.ev (.move rfl) rfl rfl ?_
  refine RL.nil (RC.back ?_)
  refine RC.range (cs := [_, _]) rfl ok112 ?_
  intro rL W1 hst hpe hps hasg hbd hk1 s1 z1 hL hD
  obtain ⟨b_D, eD⟩ : ∃ D, D = w_2.heap.size := ⟨_, rfl⟩
  rw [← eD] at hk1 z1 hL hD ⊢
  obtain ⟨b_l, el⟩ : ∃ l, l = b_D + 1 := ⟨_, rfl⟩
  rw [← el] at hk1 hL ⊢
  have n_D_l : b_D ≠ b_l := by omega
  have ge_D : _ ≤ b_D := Nat.le_trans S.size (by omega)
  have ge_l : _ ≤ b_l := Nat.le_trans S.size (by omega)
  have nb_2_b_D : b_2 ≠ b_D := fun e => by have := hb_2.lt; omega
  have nb_2_b_l : b_2 ≠ b_l := fun e => by have := hb_2.lt; omega
  have S := S.trans s1
  have hb_2 := hb_2.sub s1
  rw [recB_0 (id := 0) hst hpe] at hL
  have hY : YT Tryz.prog b_l It.val It.ok List.length 200 (HCol b_l rL b_2 w.heap.size) (stCol) := by
    intro s x C W hx hcn hH
    obtain ⟨v, ⟨hL, hb_2, o⟩, hob, hC⟩ := hH.now
    have szB : w.heap.size ≤ W.heap.size := (by have := hL.lt; omega)
    have G : Agr (fun k => k = b_l ∨ k = b_2 ∨ ob v = some k) W W := Agr.refl _ _
    refine FY.intro (m := 13) (F := upd _ (some 7) x.val) [0] hL rfl (by show 1 = rL.params.size; rw [hps]; rfl) (knows1 hps hk1 rfl) ?_
    show RC _ _ rL.assign _ _ _
    rw [hasg]
    refine RC.region rfl ?_
    refine RL.alloc ze51 rfl rfl (fun b_5 w_5 e_5 z_5 hb_5 s_5 => ?_)
    have n_l__5 := hL.ne e_5
    have n_2__5 := hb_2.ne e_5
    have d_o_b_5 := o.neNew e_5
    have hL := hL.sub s_5
    have hb_2 := hb_2.sub s_5
    have o := o.sub s_5
    have geG_5 := agLe G e_5
    have G := G.trans s_5.agr
    have szB := Nat.le_trans szB s_5.size
    refine RL.store sh51 rfl rfl rfl hb_5 (by exact Nat.le_of_ble_eq_true rfl) (by rfl) rfl (fun w1 z1 hb_5 a1 => ?_)
    have hL := hL.upd a1 n_l__5
    have hb_2 := hb_2.upd a1 n_2__5
    have o := o.updD a1 d_o_b_5
    have G := agNew G a1 geG_5
    have szB := Nat.le_trans szB a1.size
    have hb_5 : Has w1 b_5 (x.cells) _ := hb_5.now (by kernel_rfl)
    refine RL.nil (RC.begin hL ?_)
    intro w2 a2 z2 hL
    have hb_2 := hb_2.step a2 (fun e => nb_2_b_l e)
    have o := o.step a2 (fun k hk e => (fun k hk => (hob k hk).1) k hk e)
    have G := G.trans (a2.mono fun k _ e => .inl e)
    have szB := Nat.le_trans szB a2.size
    have hb_5 := hb_5.step a2 (fun e => n_l__5.symm e)
    show RC _ _ rL.body _ _ _
    rw [hbd]
    refine RC.block ?_
    refine RC.region rfl ?_
    refine RL.ev (.load1 sh42 rfl (hb_2.cell rfl)) rfl rfl ?_
    refine RL.ev (.loadR (x.cells) sh51 rfl hb_5.row rfl) rfl rfl ?_
    refine RL.buildSlice1 sl42 _ ze51 rfl rfl rfl rfl rfl rfl rfl (fun b_10 w_10 e_10 z_10 hb_10 s_10 => ?_)
    have n_2__10 := hb_2.ne e_10
    have n_5__10 := hb_5.ne e_10
    have n_l__10 := hL.ne e_10
    have d_o_b_10 := o.neNew e_10
    have hb_2 := hb_2.sub s_10
    have o := o.sub s_10
    have geG_10 := agLe G e_10
    have G := G.trans s_10.agr
    have szB := Nat.le_trans szB s_10.size
    have hb_5 := hb_5.sub s_10
    have hL := hL.sub s_10
    have ltb_2_11 := hb_2.lt
    have szG_11 := G.size
    have ltb_5_11 := hb_5.lt
    have ltb_l_11 := hL.lt
    have ltb_10_11 := hb_10.lt
    refine RL.append2 (base := w.heap.size) (rows := s.map It.cells) (news := [_]) sl42 ze51 rfl rfl rfl rfl (.inl o) (Has.slOne hb_10) rfl (by intro r hr; rw [List.mem_singleton] at hr; subst hr; rfl) rfl (by (try simp only [List.length_map, List.length_nil, List.length_append, List.length_cons]); omega) (by (try simp only [List.length_map, List.length_nil, List.length_append, List.length_cons]); omega) (by omega) rfl rfl (fun v_11 w_11 hc_11 ho_11 ag_11 ob_11 => ?_)
    have o11 := ho_11 (.inl (by simp))
    rw [show _ ++ [_] = ((s ++ [x]).map It.cells) from by rw [List.map_append]; rfl] at o11
    have d_o11_b_2 := obNe ob_11 (fun k hk => (hob k hk).2) hb_2.lt
    have d_o11_b_5 := obNe ob_11 d_o_b_5 hb_5.lt
    have d_o11_b_l := obNe ob_11 (fun k hk => (hob k hk).1) hL.lt
    have hb_2 := hb_2.step ag_11 (fun e => (fun k hk => (hob k hk).2) _ e.1 rfl)
    have G := G.trans (ag_11.mono fun k _ e => .inr (.inr e.1))
    have szB := Nat.le_trans szB ag_11.size
    have hb_5 := hb_5.step ag_11 (fun e => d_o_b_5 _ e.1 rfl)
    have hL := hL.step ag_11 (fun e => (fun k hk => (hob k hk).1) _ e.1 rfl)
    obtain ⟨a_11, c_11, rfl, k_11⟩ := o11.form
    refine RL.store sh42 rfl rfl rfl hb_2 (by exact Nat.le_of_ble_eq_true rfl) (by rfl) rfl (fun w3 z3 hb_2 a3 => ?_)
    have G := G.trans (a3.mono fun k _ e => .inr (.inl e))
    have szB := Nat.le_trans szB a3.size
    have hb_5 := hb_5.upd a3 n_2__5.symm
    have hL := hL.upd a3 nb_2_b_l.symm
    have o11 := o11.updD a3 d_o11_b_2
    refine RL.nil (RC.endr (j := none) hL ?_)
    intro w4 a4 z4 hL
    have hb_2 := hb_2.step a4 (fun e => nb_2_b_l e)
    have G := G.trans (a4.mono fun k _ e => .inl e)
    have szB := Nat.le_trans szB a4.size
    have hb_5 := hb_5.step a4 (fun e => n_l__5.symm e)
    have o11 := o11.step a4 (fun k hk e => d_o11_b_l k hk e)
    -- round end 1
    refine ⟨_, rfl, HCol.ft (fun _ => Iff.rfl) hL hb_2 o11 (fun k hk => ⟨d_o11_b_l k hk, d_o11_b_2 k hk⟩), G.mono fun k _ e => (hC k).2 e, fun k hk => ?_⟩
    rcases hk with e | e | e
    · exact .inl ((hC k).2 (.inl e))
    · exact .inl ((hC k).2 (.inr (.inl e)))
    · rcases ob_11 with h | ⟨c, h, h3⟩
      · exact .inl ((hC k).2 (.inr (.inr (h ▸ e))))
      · rw [h] at e; cases e; exact .inr (Nat.le_trans szG_11 h3)
  refine FC.mono (c_wleaves1 b_l _ _ _ _ stCol_cnt hY A na fa nc fc r hr L hTT [] (fun k => k = b_l ∨ k = b_2 ∨ ob (.slice none 0 0) = some k) (· < w.heap.size) bA bR W1 (by simpa using hl) ((Ft.of_sub fun u s => hA.sub s).sub S) (fun k hk e => by rcases e with e | e | e <;> first | (cases e; done) | omega) (HCol.ft (fun _ => Iff.rfl) hL hb_2 (Ows.nil _ _ _ _) (fun k e => by cases e)) ((hbA.sub S)) ((hbR.sub S))) ?_
  rintro _ W2 ⟨C2, hH, ag, up⟩
  rw [push_col] at hH
  obtain ⟨v, ⟨hL, hb_2, o⟩, hob, hC⟩ := hH.now
  have hDC : ¬ (b_D = b_l ∨ b_D = b_2 ∨ ob (.slice none 0 0) = some b_D) := (fun e => by rcases e with e | e | e <;> first | (cases e; done) | omega)
  have S := S.agrN ag (fun k e => by rcases e with e | e | e <;> first | (cases e; done) | omega)
  have hDn : ¬ C2 b_D := up.not hD.lt hDC
  have hD := hD.step ag hDC
  have hoD : ∀ k, ob v = some k → k ≠ b_D := fun k hk e => hDn (e ▸ (hC k).2 (.inr (.inr hk)))
  obtain ⟨a1, c1, rfl, _⟩ := o.form
  refine ⟨_, hL, recB_nb, fun W3 a3 z3 => .inl ⟨recB_pe, RC.backM ?_⟩⟩
  have S := S.agrN a3 (fun k e => e ▸ ge_l)
  have o := o.step a3 (fun k hk e => (fun k hk => (hob k hk).1) k hk e)
  have hb_2 := hb_2.step a3 (fun e => nb_2_b_l e)
  have hD := hD.step a3 (fun e => n_D_l e)
  refine RC.seq ?_
  refine RC.region rfl ?_
  refine RL.ev (.load1 sh42 rfl (hb_2.cell rfl)) rfl rfl ?_
  refine RL.ev (.assign rfl) rfl rfl ?_
  refine RL.nil (RC.back ?_)
  refine RC.doneM (rs := [.tmp 4]) (vs := [_]) rfl rfl (fun _ => ⟨rfl, trivial⟩) hD (fun w5 a5 z5 => ?_)
  have S := S.agrN a5 (fun k e => e ▸ ge_D)
  have o := o.step a5 (fun k hk e => hoD k hk e)
  have hb_2 := hb_2.step a5 (fun e => nb_2_b_D e)
  -- end 1
  exact ⟨S, a1, c1, rfl, o⟩
theorem c_collect (A : Ar) (na fa : Option Addr) (nc fc : Nat) (r : Int) (hr : U64 r) (L : List It) (hL : IsH A 10 r L) (hl : L.length ≤ 200) (bA bR : Nat) (w : World) (hA : ArR w na fa A) (hbA : Has w bA [.slice na A.nodes.length nc, .slice fa A.free.length fc] 26) (hbR : Has w bR [.int .u64 r] 31) :
    FC Tryz.prog 52 [.func (.func 112) #[] #[.pointer (some ⟨bA, 0, none⟩), .pointer (some ⟨bR, 0, none⟩)]] w (fun v w' => Sub w w' ∧ ∃ a c, v = .slice a ((rowH A r).map It.cells).length c ∧ Ows w.heap.size w' 51 2 (.slice a ((rowH A r).map It.cells).length c) ((rowH A r).map It.cells)) := by
  refine FC.intro Tryz.func52 rfl Tryz.ntmps52 rfl ?_
  have S := Sub.refl w
  refine RC.seq ?_
  refine RC.region rfl ?_
  refine RL.ev (.assign rfl) rfl rfl ?_
  refine RL.nil (RC.back ?_)
  refine RC.seq ?_
  refine RC.region rfl ?_
  refine RL.ev (.move rfl) rfl rfl ?_
  refine RL.call rfl ok111 (c_appendSeq A na fa nc fc r hr L hL hl bA bR w (hA.sub S) (hbA.sub S) (hbR.sub S)) rfl rfl ?_
  rintro _ w1 ⟨s2, a1, c1, rfl, o⟩
  have o := o.low S.size
  have S := S.trans s2
  refine RL.ev (.assign rfl) rfl rfl ?_
  refine RL.nil (RC.back ?_)
  refine RC.done (rs := [.tmp 2]) (vs := [_]) rfl rfl ⟨rfl, trivial⟩ ?_
  -- end 1
  exact ⟨S, a1, c1, rfl, o⟩
end Go.Proofs.YtbjmllnddanniaaGreat
set_option linter.unusedVariables false
set_option linter.unusedSimpArgs false
namespace Go.Proofs.YtbjmllnddanniaaGreat
open Go Go.XL
def rNode (g v s a b : Int) : Node := ⟨5, g, 0, v, s, a, b, 0, 0, 0, 0, 0, 0, 0, 0, 0⟩
/-- a reference is the row of values; the places of its nodes -/
inductive IsR (A : Ar) : Int → List Int → List Int → Prop
  | nil : IsR A 0 [] []
  | node {r g v a b : Int} {L R P Q : List Int} : getA A r = some (rNode g v ((L.length : Int) + R.length + 1) a b) → IsR A a L P → IsR A b R Q → (placeR r :: (P ++ Q)).Nodup → IsR A r (L ++ v :: R) (placeR r :: (P ++ Q))
section
variable {A B : Ar} {r : Int} {V P : List Int}
theorem getA_00 (A : Ar) : getA A 0 = none := by
  cases h : getA A 0 with
  | none => rfl
  | some x =>
    have h2 := (getA_rng h).1
    rw [placeR_not (fun hn : nodeR 0 => by have := (nodeR_iff 0).1 hn; exact this.1 rfl)] at h2
    omega
theorem IsR.zero (h : IsR A 0 V P) : V = [] ∧ P = [] := by
  cases h with
  | nil => exact ⟨rfl, rfl⟩
  | node h1 => rw [getA_00] at h1; cases h1
theorem IsR.unique (h : IsR A r V P) : ∀ {V' P' : List Int}, IsR A r V' P' → V' = V ∧ P' = P := by
  induction h with
  | nil => intro V' P' h; exact h.zero
  | @node r g v a b L R P Q h1 h2 h3 h4 ih1 ih2 =>
    intro V' P' h
    cases h with
    | nil => rw [getA_00] at h1; cases h1
    | node k1 k2 k3 k4 =>
      rw [h1] at k1
      simp only [Option.some.injEq, rNode, Node.mk.injEq] at k1
      obtain ⟨_, _, _, e1, _, e2, e3, _⟩ := k1
      subst e2 e3
      obtain ⟨rfl, rfl⟩ := ih1 k2
      obtain ⟨rfl, rfl⟩ := ih2 k3
      rw [e1]
      exact ⟨rfl, rfl⟩
theorem IsR.len (h : IsR A r V P) : P.length = V.length := by
  induction h with
  | nil => rfl
  | node _ _ _ _ ih1 ih2 => simp only [List.length_cons, List.length_append, ih1, ih2]; omega
theorem IsR.nodup (h : IsR A r V P) : P.Nodup := by
  cases h with
  | nil => exact List.nodup_nil
  | node _ _ _ h => exact h
theorem IsR.ext (h : IsR A r V P) (e : Ext A B) : IsR B r V P := by
  induction h with
  | nil => exact .nil
  | node h1 _ _ h4 ih1 ih2 => exact .node (e.get h1) ih1 ih2 h4
theorem IsR.rng (h : IsR A r V P) : ∀ p ∈ P, 0 ≤ p ∧ p < A.nodes.length := by
  induction h with
  | nil => intro p hp; cases hp
  | node h1 _ _ _ ih1 ih2 =>
    intro p hp
    rcases List.mem_cons.1 hp with rfl | hp
    · exact getA_rng h1
    · exact (List.mem_append.1 hp).elim (ih1 p) (ih2 p)
theorem IsR.right (h : IsR A r V P) : rightR r = true := by
  cases h with
  | nil => exact (rightR_iff 0).2 (.inl rfl)
  | node h1 =>
    have h2 := (getA_rng h1).1
    refine Classical.byContradiction fun e => ?_
    rw [placeR_not (fun hn : nodeR r => e hn.2)] at h2
    omega
theorem IsR.size (h : IsR A r V P) : sizeA A r = V.length := by
  cases h with
  | nil => unfold sizeA; rw [getA_00]; rfl
  | node h1 => unfold sizeA; rw [h1]; simp only [rNode, List.length_append, List.length_cons]; omega
theorem IsR.ne (h : IsR A r V P) (hr : ¬ r = 0) : ∃ (x : Node) (L R P1 P2 : List Int), V = L ++ x.v :: R ∧ P = placeR r :: (P1 ++ P2) ∧ getA A r = some x ∧ x = rNode x.gen x.v ((L.length : Int) + R.length + 1) x.k0 x.k1 ∧ IsR A x.k0 L P1 ∧ IsR A x.k1 R P2 ∧ (placeR r :: (P1 ++ P2)).Nodup := by
  cases h with
  | nil => exact absurd rfl hr
  | node h1 h2 h3 h4 => exact ⟨_, _, _, _, _, rfl, rfl, h1, rfl, h2, h3, h4⟩
theorem IsR.pos (h : IsR A r V P) (hr : ¬ r = 0) : 0 < V.length := by
  obtain ⟨x, L, R, P1, P2, rfl, _⟩ := h.ne hr
  simp only [List.length_append, List.length_cons]; omega
end
def rBare (y : Node) : Node := ⟨y.kind, y.gen, 0, y.v, y.s, y.k0, y.k1, 0, 0, 0, 0, 0, 0, 0, 0, 0⟩
theorem rBare_iff {y : Node} (h : y.kind = 5) : rBare y = y ↔ y = rNode y.gen y.v y.s y.k0 y.k1 := by
  unfold rBare rNode; rw [h]; exact eq_comm
def mayR (A : Ar) : Nat → Int → List Bool → Int → Int × List Bool
  | 0, r, seen, _ => (if r = 0 then 0 else -1, seen)
  | k + 1, r, seen, left =>
    if r = 0 then (0, seen) else match getA A r with
    | none => (-1, seen)
    | some y =>
      if left ≤ 0 ∨ ¬ y.kind = 5 ∨ seen.getD (placeR r).toNat false = true then (-1, seen) else
      if (mayR A k y.k0 (seen.set (placeR r).toNat true) (left - 1)).1 < 0 ∨ ¬ rBare y = y then (-1, (mayR A k y.k0 (seen.set (placeR r).toNat true) (left - 1)).2) else
      if (mayR A k y.k1 (mayR A k y.k0 (seen.set (placeR r).toNat true) (left - 1)).2 (left - 1 - (mayR A k y.k0 (seen.set (placeR r).toNat true) (left - 1)).1)).1 < 0 ∨
        ¬ (mayR A k y.k0 (seen.set (placeR r).toNat true) (left - 1)).1 + (mayR A k y.k1 (mayR A k y.k0 (seen.set (placeR r).toNat true) (left - 1)).2 (left - 1 - (mayR A k y.k0 (seen.set (placeR r).toNat true) (left - 1)).1)).1 + 1 = y.s
      then (-1, (mayR A k y.k1 (mayR A k y.k0 (seen.set (placeR r).toNat true) (left - 1)).2 (left - 1 - (mayR A k y.k0 (seen.set (placeR r).toNat true) (left - 1)).1)).2)
      else ((mayR A k y.k0 (seen.set (placeR r).toNat true) (left - 1)).1 + (mayR A k y.k1 (mayR A k y.k0 (seen.set (placeR r).toNat true) (left - 1)).2 (left - 1 - (mayR A k y.k0 (seen.set (placeR r).toNat true) (left - 1)).1)).1 + 1,
        (mayR A k y.k1 (mayR A k y.k0 (seen.set (placeR r).toNat true) (left - 1)).2 (left - 1 - (mayR A k y.k0 (seen.set (placeR r).toNat true) (left - 1)).1)).2)
section
variable {A : Ar} {k : Nat} {r left : Int} {seen : List Bool} {y : Node}
theorem mayR_0 (A : Ar) (k : Nat) (seen : List Bool) (left : Int) : mayR A k 0 seen left = (0, seen) := by cases k <;> simp [mayR]
theorem mayR_no (h0 : ¬ r = 0) (h : getA A r = none) : mayR A (k + 1) r seen left = (-1, seen) := by rw [mayR, if_neg h0, h]
theorem mayR_bad (h0 : ¬ r = 0) (h : getA A r = some y) (hc : left ≤ 0 ∨ ¬ y.kind = 5 ∨ seen.getD (placeR r).toNat false = true) : mayR A (k + 1) r seen left = (-1, seen) := by rw [mayR, if_neg h0, h]; exact if_pos hc
theorem mayR_bad2 {m1 : Int × List Bool} (h0 : ¬ r = 0) (h : getA A r = some y) (hc : ¬ (left ≤ 0 ∨ ¬ y.kind = 5 ∨ seen.getD (placeR r).toNat false = true)) (hm : mayR A k y.k0 (seen.set (placeR r).toNat true) (left - 1) = m1) (h2 : m1.1 < 0 ∨ ¬ rBare y = y) :
    mayR A (k + 1) r seen left = (-1, m1.2) := by
  rw [mayR, if_neg h0, h]; simp only []; rw [if_neg hc, hm, if_pos h2]
theorem mayR_bad3 {m1 m2 : Int × List Bool} (h0 : ¬ r = 0) (h : getA A r = some y) (hc : ¬ (left ≤ 0 ∨ ¬ y.kind = 5 ∨ seen.getD (placeR r).toNat false = true)) (hm : mayR A k y.k0 (seen.set (placeR r).toNat true) (left - 1) = m1) (h2 : ¬ (m1.1 < 0 ∨ ¬ rBare y = y))
    (hm2 : mayR A k y.k1 m1.2 (left - 1 - m1.1) = m2) (h3 : m2.1 < 0 ∨ ¬ m1.1 + m2.1 + 1 = y.s) : mayR A (k + 1) r seen left = (-1, m2.2) := by
  rw [mayR, if_neg h0, h]; simp only []; rw [if_neg hc, hm, if_neg h2, hm2, if_pos h3]
theorem mayR_good {m1 m2 : Int × List Bool} (h0 : ¬ r = 0) (h : getA A r = some y) (hc : ¬ (left ≤ 0 ∨ ¬ y.kind = 5 ∨ seen.getD (placeR r).toNat false = true)) (hm : mayR A k y.k0 (seen.set (placeR r).toNat true) (left - 1) = m1) (h2 : ¬ (m1.1 < 0 ∨ ¬ rBare y = y))
    (hm2 : mayR A k y.k1 m1.2 (left - 1 - m1.1) = m2) (h3 : ¬ (m2.1 < 0 ∨ ¬ m1.1 + m2.1 + 1 = y.s)) : mayR A (k + 1) r seen left = (m1.1 + m2.1 + 1, m2.2) := by
  rw [mayR, if_neg h0, h]; simp only []; rw [if_neg hc, hm, if_neg h2, hm2, if_neg h3]
end
/-- places that were met are marked -/
def setAll (seen : List Bool) (P : List Int) : List Bool := P.foldl (fun s p => s.set p.toNat true) seen
theorem setAll_len : ∀ (P : List Int) (seen : List Bool), (setAll seen P).length = seen.length
  | [], _ => rfl
  | p :: P, seen => by rw [setAll, List.foldl_cons]; exact (setAll_len P _).trans (List.length_set)
theorem setAll_app (seen : List Bool) (P Q : List Int) : setAll seen (P ++ Q) = setAll (setAll seen P) Q := List.foldl_append
theorem setD_ne {seen : List Bool} {i j : Nat} (h : i ≠ j) : (seen.set i true).getD j false = seen.getD j false := by
  rw [List.getD_eq_getElem?_getD, List.getD_eq_getElem?_getD, List.getElem?_set_ne h]
theorem setD_eq {seen : List Bool} {i : Nat} (h : i < seen.length) : (seen.set i true).getD i false = true := by
  rw [List.getD_eq_getElem?_getD, List.getElem?_set_self h]; rfl
theorem setAll_other : ∀ (P : List Int) (seen : List Bool) (q : Int), 0 ≤ q → (∀ p ∈ P, 0 ≤ p) → ¬ q ∈ P → (setAll seen P).getD q.toNat false = seen.getD q.toNat false
  | [], _, _, _, _, _ => rfl
  | p :: P, seen, q, hq, hp, hn => by
    rw [setAll, List.foldl_cons]
    have h1 := hp p List.mem_cons_self
    have hne : p.toNat ≠ q.toNat := fun e => hn (by rw [show q = p by omega]; exact List.mem_cons_self)
    rw [← setD_ne (seen := seen) hne]
    exact setAll_other P _ q hq (fun x hx => hp x (List.mem_cons_of_mem _ hx)) (fun h => hn (List.mem_cons_of_mem _ h))
theorem setAll_in : ∀ (P : List Int) (seen : List Bool) (q : Int), (∀ p ∈ P, 0 ≤ p ∧ p < seen.length) → q ∈ P → (setAll seen P).getD q.toNat false = true
  | [], _, _, _, h => by cases h
  | p :: P, seen, q, hp, h => by
    rw [setAll, List.foldl_cons]
    have h1 := hp p List.mem_cons_self
    by_cases hq : q ∈ P
    · exact setAll_in P _ q (fun x hx => by rw [List.length_set]; exact hp x (List.mem_cons_of_mem _ hx)) hq
    · rcases List.mem_cons.1 h with e | h
      · subst e
        exact (setAll_other P _ q h1.1 (fun x hx => (hp x (List.mem_cons_of_mem _ hx)).1) hq).trans (setD_eq (by omega))
      · exact absurd h hq
theorem mayR_yes {A : Ar} {r : Int} {V P : List Int} (h : IsR A r V P) : ∀ (k : Nat) (seen : List Bool) (left : Int), (P.length : Int) ≤ left → left < k → (∀ p ∈ P, seen.getD p.toNat false = false) → mayR A k r seen left = ((P.length : Int), setAll seen P) := by
  induction h with
  | nil => intro k seen left _ _ _; rw [mayR_0]; rfl
  | @node r g v a b L R P Q h1 h2 h3 h4 ih1 ih2 =>
    intro k seen left hl hk hs
    simp only [List.length_cons, List.length_append] at hl
    obtain ⟨k, rfl⟩ : ∃ k', k = k' + 1 := ⟨k - 1, by omega⟩
    have h0 : ¬ r = 0 := fun e => by rw [e, getA_00] at h1; cases h1
    obtain ⟨hn1, hn2⟩ := List.nodup_cons.1 h4
    obtain ⟨hnP, hnQ, hPQ⟩ := List.nodup_append.1 hn2
    have hat := getA_rng h1
    have hP := h2.rng
    have hQ := h3.rng
    have hs1 : ∀ p ∈ P ++ Q, (seen.set (placeR r).toNat true).getD p.toNat false = false := by
      intro p hp
      have hp0 : 0 ≤ p := ((List.mem_append.1 hp).elim (fun h => (hP p h).1) (fun h => (hQ p h).1))
      rw [setD_ne (fun e => hn1 (by rw [show placeR r = p by omega]; exact hp))]
      exact hs p (List.mem_cons_of_mem _ hp)
    have e1 := ih1 k (seen.set (placeR r).toNat true) (left - 1) (by omega) (by omega) (fun p hp => hs1 p (List.mem_append_left _ hp))
    have e2 := ih2 k (setAll (seen.set (placeR r).toNat true) P) (left - 1 - P.length) (by omega) (by omega) (fun q hq => by
      rw [setAll_other P _ q (hQ q hq).1 (fun p hp => (hP p hp).1) (fun hqp => hPQ q hqp q hq rfl)]
      exact hs1 q (List.mem_append_right _ hq))
    have hl1 := h2.len
    have hl2 := h3.len
    rw [mayR_good h0 h1 (fun hc => by
      rcases hc with hc | hc | hc
      · omega
      · exact hc rfl
      · rw [hs _ List.mem_cons_self] at hc; cases hc) e1 (fun hc => hc.elim (fun h => by simp only [] at h; omega) (fun h => h rfl)) e2 (fun hc => by
        simp only [rNode] at hc
        omega)]
    simp only [List.length_cons, List.length_append, Prod.mk.injEq]
    refine ⟨by omega, ?_⟩
    show setAll (setAll (seen.set (placeR r).toNat true) P) Q = setAll seen (placeR r :: (P ++ Q))
    rw [← setAll_app]; rfl
theorem mayR_is {A : Ar} : ∀ (k : Nat) (r : Int) (seen : List Bool) (left : Int), 0 ≤ left → left < k → A.nodes.length ≤ seen.length → 0 ≤ (mayR A k r seen left).1 → ∃ V P, IsR A r V P ∧ (P.length : Int) ≤ left ∧ ∀ p ∈ P, seen.getD p.toNat false = false
  | 0, _, _, _, h1, h2, _, _ => absurd h1 (by omega)
  | k + 1, r, seen, left, h1, h2, hlen, h => by
    by_cases h0 : r = 0
    · subst h0; exact ⟨[], [], .nil, h1, by simp⟩
    · cases hg : getA A r with
      | none => rw [mayR_no h0 hg] at h; exact absurd h (show ¬ (0 : Int) ≤ -1 by decide)
      | some y =>
        by_cases hc : left ≤ 0 ∨ ¬ y.kind = 5 ∨ seen.getD (placeR r).toNat false = true
        · rw [mayR_bad h0 hg hc] at h; exact absurd h (show ¬ (0 : Int) ≤ -1 by decide)
        · obtain ⟨m1, hm1⟩ : ∃ m, mayR A k y.k0 (seen.set (placeR r).toNat true) (left - 1) = m := ⟨_, rfl⟩
          by_cases hc2 : m1.1 < 0 ∨ ¬ rBare y = y
          · rw [mayR_bad2 h0 hg hc hm1 hc2] at h; exact absurd h (show ¬ (0 : Int) ≤ -1 by decide)
          · have hat := getA_rng hg
            have hm0 : 0 ≤ m1.1 := Int.not_lt.1 fun e => hc2 (.inl e)
            have hbare : rBare y = y := Classical.not_not.1 fun e => hc2 (.inr e)
            have hl0 : ¬ left ≤ 0 := fun e => hc (.inl e)
            have hkind : y.kind = 5 := Classical.not_not.1 fun e => hc (.inr (.inl e))
            have hun : seen.getD (placeR r).toNat false = false := by
              cases hq : seen.getD (placeR r).toNat false with
              | false => rfl
              | true => exact absurd (.inr (.inr hq)) hc
            obtain ⟨L, P, hL, hPl, hPs⟩ := mayR_is k y.k0 (seen.set (placeR r).toNat true) (left - 1) (by omega) (by omega) (by rw [List.length_set]; exact hlen) (by rw [hm1]; exact hm0)
            have e1 := mayR_yes hL k (seen.set (placeR r).toNat true) (left - 1) hPl (by omega) hPs
            rw [hm1] at e1
            subst e1
            simp only [] at hm0 hc2
            obtain ⟨m2, hm2⟩ : ∃ m, mayR A k y.k1 (setAll (seen.set (placeR r).toNat true) P) (left - 1 - (P.length : Int)) = m := ⟨_, rfl⟩
            by_cases hc3 : m2.1 < 0 ∨ ¬ (P.length : Int) + m2.1 + 1 = y.s
            · rw [mayR_bad3 h0 hg hc hm1 hc2 hm2 hc3] at h; exact absurd h (show ¬ (0 : Int) ≤ -1 by decide)
            · have hm0' : 0 ≤ m2.1 := Int.not_lt.1 fun e => hc3 (.inl e)
              have hsum : (P.length : Int) + m2.1 + 1 = y.s := Classical.not_not.1 fun e => hc3 (.inr e)
              obtain ⟨R, Q, hR, hQl, hQs⟩ := mayR_is k y.k1 (setAll (seen.set (placeR r).toNat true) P) (left - 1 - (P.length : Int)) (by omega) (by omega) (by rw [setAll_len, List.length_set]; exact hlen) (by rw [hm2]; exact hm0')
              have e2 := mayR_yes hR k _ _ hQl (by omega) hQs
              rw [hm2] at e2
              subst e2
              simp only [] at hsum
              have hP := hL.rng
              have hQ := hR.rng
              have hatP : ¬ placeR r ∈ P := fun hin => by
                have := hPs _ hin
                rw [setD_eq (by omega)] at this; cases this
              have hPQ : ∀ q ∈ Q, ¬ q ∈ P := fun q hq hqp => by
                have := hQs q hq
                rw [setAll_in P _ q (fun p hp => by rw [List.length_set]; have := hP p hp; omega) hqp] at this; cases this
              have hatQ : ¬ placeR r ∈ Q := fun hin => by
                have := hQs _ hin
                rw [setAll_other P _ _ hat.1 (fun p hp => (hP p hp).1) hatP, setD_eq (by omega)] at this; cases this
              have hy := (rBare_iff hkind).1 hbare
              have hl1 := hL.len
              have hl2 := hR.len
              refine ⟨_, _, .node (g := y.gen) (v := y.v) (a := y.k0) (b := y.k1) (by rw [hg, hy, ← hsum]; simp only [rNode, hl1, hl2]) hL hR ?_, ?_, ?_⟩
              · refine List.nodup_cons.2 ⟨fun hin => (List.mem_append.1 hin).elim hatP hatQ, List.nodup_append.2 ⟨hL.nodup, hR.nodup, fun p hp q hq e => hPQ q hq (e ▸ hp)⟩⟩
              · simp only [List.length_cons, List.length_append]; omega
              · intro p hp
                rcases List.mem_cons.1 hp with rfl | hp
                · exact hun
                · rcases List.mem_append.1 hp with hp | hp
                  · have := hPs p hp
                    rwa [setD_ne (fun e => hatP (by rw [show placeR r = p by have := hP p hp; omega]; exact hp))] at this
                  · have := hQs p hp
                    rw [setAll_other P _ p (hQ p hp).1 (fun x hx => (hP x hx).1) (hPQ p hp)] at this
                    rwa [setD_ne (fun e => hatQ (by rw [show placeR r = p by have := hQ p hp; omega]; exact hp))] at this
def isRow (A : Ar) (r : Int) : Prop := AOk A ∧ ∃ V P, IsR A r V P ∧ V.length ≤ 200
theorem isRow_iff {A : Ar} {r : Int} (hA : AOk A) : 0 ≤ (mayR A 201 r (List.replicate A.nodes.length false) 200).1 ↔ isRow A r := by
  constructor
  · intro h
    obtain ⟨V, P, h1, h2, _⟩ := mayR_is 201 r _ 200 (by decide) (by decide) (by rw [List.length_replicate]; exact Nat.le_refl _) h
    exact ⟨hA, V, P, h1, by have := h1.len; omega⟩
  · rintro ⟨_, V, P, h1, h2⟩
    rw [mayR_yes h1 201 _ 200 (by have := h1.len; omega) (by decide) (fun p hp => by rw [List.getD_eq_getElem?_getD, List.getElem?_replicate]; split <;> rfl)]
    exact Int.natCast_nonneg _
noncomputable def isRowB (A : Ar) (r : Int) : Bool := @decide (isRow A r) (Classical.propDecidable _)
theorem isRowB_iff (A : Ar) (r : Int) : isRowB A r = true ↔ isRow A r := by unfold isRowB; exact @decide_eq_true_iff _ (Classical.propDecidable _)
theorem isRowB_yes {A : Ar} {r : Int} (h : isRow A r) : isRowB A r = true := (isRowB_iff A r).2 h
theorem isRowB_no {A : Ar} {r : Int} (h : ¬ isRow A r) : isRowB A r = false := by rw [Bool.eq_false_iff]; exact fun e => h ((isRowB_iff A r).1 e)
end Go.Proofs.YtbjmllnddanniaaGreat
set_option linter.unusedVariables false
set_option linter.unusedSimpArgs false
namespace Go.Proofs.YtbjmllnddanniaaGreat
open Go Go.XL
theorem it_eqL (x y : It) : eqL x.cells y.cells = decide (x = y) := by
  cases x; cases y
  rw [Bool.eq_iff_iff, decide_eq_true_iff]
  simp [It.cells, eqL, eq1]
theorem c_equal (l m : List It) (a b : Option Addr) (c d n k : Nat) (hn : n = l.length) (hk : k = m.length) (w : World) (hl : Sl w a 2 (l.map It.cells)) (hm : Sl w b 2 (m.map It.cells)) (hb : l.length ≤ 1000000) :
    FC Tryz.prog 94 [.slice a n c, .slice b k d] w (Val (.bool (decide (l = m))) w) := by
  subst hn hk
  refine FC.intro Tryz.func94 rfl Tryz.ntmps94 rfl ?_
  have S := Sub.refl w
  refine RC.seq ?_
  refine RC.region rfl ?_
  refine RL.ev (.assign rfl) rfl rfl ?_
  refine RL.nil (RC.back ?_)
  refine RC.seq ?_
  refine RC.seq ?_
  refine RC.region rfl ?_
  refine RL.ev (.move rfl) rfl rfl ?_
  refine RL.ev (.len sl42 rfl) rfl rfl ?_
  refine RL.ev (.move rfl) rfl rfl ?_
  refine RL.ev (.len sl42 rfl) rfl rfl ?_
  refine RL.ev (.bin rfl rfl rfl) rfl rfl ?_
  refine RL.nil (RC.back ?_)
  refine RC.cond_dec rfl (fun h1 => ?_) (fun h1 => ?_)
  ·
    have hno : ¬ l = m := (fun e => h1 (by rw [e]))
    refine RC.seq ?_
    refine RC.region rfl ?_
    refine RL.ev (.assign rfl) rfl rfl ?_
    refine RL.nil (RC.back ?_)
    refine RC.done (rs := [.tmp 4]) (vs := [_]) rfl rfl ⟨rfl, trivial⟩ ?_
    -- end 1
    rw [decide_eq_false hno]
    exact ⟨rfl, S⟩
  ·
    have h10 : l.length = m.length := (by omega)
    refine RC.skip (RC.back ?_)
    refine RC.seq ?_
    refine RC.seq ?_
    refine RC.region rfl ?_
    refine RL.ev (.move rfl) rfl rfl ?_
    refine RL.ev (.len sl42 rfl) rfl rfl ?_
    refine RL.ev (.move rfl) rfl rfl ?_
    refine RL.nil (RC.back ?_)
    refine RC.block ?_
    refine RC.loop (α := Nat) (fun i => [(0, .slice a l.length c), (1, .slice b m.length d), (12, .int .i64 (l.length : Int)), (13, .int .i64 (i : Int))]) (fun i w2 => (i ≤ l.length ∧ l.take i = m.take i) ∧ Sub w w2) (fun i => l.length - i) 0 (keep_of (by repeat (first | exact trivial | refine And.intro rfl ?_))) (⟨⟨Nat.zero_le _, rfl⟩, S⟩) (fun i w2 hJ => ?_)
    obtain ⟨⟨hi, hp⟩, S⟩ := hJ
    refine RC.seq ?_
    refine RC.region rfl ?_
    refine RL.ev (.bin rfl rfl rfl) rfl rfl ?_
    refine RL.nil (RC.back ?_)
    refine RC.seq ?_
    refine RC.cond_dec rfl (fun h3 => ?_) (fun h3 => ?_)
    ·
      obtain ⟨x, hx⟩ := getSome (l := l) (i := i) (by omega)
      obtain ⟨y, hy⟩ := getSome (l := m) (i := i) (by omega)
      refine RC.skip (RC.back ?_)
      refine RC.seq ?_
      refine RC.block ?_
      refine RC.seq ?_
      refine RC.region rfl ?_
      refine RL.ev (.move rfl) rfl rfl ?_
      refine RL.ev (.assign rfl) rfl rfl ?_
      refine RL.nil (RC.back ?_)
      refine RC.seq ?_
      refine RC.draw rfl mxo (by kernel_rfl) ?_
      refine RQ.ev (.move rfl) rfl rfl ?_
      refine RQ.ev (.move rfl) rfl rfl ?_
      refine RQ.ev (.indexS sl42 rfl rfl (by omega) (hl.is (i := 0) (by simp only [List.length_map, List.length_cons, List.length_nil]; omega))) rfl rfl ?_
      refine RQ.ev (.loadR (x.cells) sh51 rfl ((hl.sub S).rowAt (enc := It.cells) (i := i) hx) rfl) rfl rfl ?_
      refine RQ.ev (.move rfl) rfl rfl ?_
      refine RQ.ev (.move rfl) rfl rfl ?_
      refine RQ.ev (.indexS sl42 rfl rfl (by omega) (hm.is (i := 0) (by simp only [List.length_map, List.length_cons, List.length_nil]; omega))) rfl rfl ?_
      refine RQ.ev (.loadR (y.cells) sh51 rfl ((hm.sub S).rowAt (enc := It.cells) (i := i) hy) rfl) rfl rfl ?_
      refine RQ.ev (.neS (xs := x.cells) (ys := y.cells) fk51 eg51 sh51 rfl rfl rfl rfl rfl) rfl rfl ?_
      refine RQ.nil (fun w4 s5 => RC.back ?_)
      have S := S.trans s5
      refine RC.cond rfl (fun h6 => ?_) (fun h6 => ?_)
      ·
        have hne : ¬ l = m := (fun e => by rw [← e, hx] at hy; cases hy; have q := h6; rw [it_eqL] at q; simp at q)
        refine RC.seq ?_
        refine RC.region rfl ?_
        refine RL.ev (.assign rfl) rfl rfl ?_
        refine RL.nil (RC.back ?_)
        refine RC.done (rs := [.tmp 4]) (vs := [_]) rfl rfl ⟨rfl, trivial⟩ ?_
        -- end 2
        rw [decide_eq_false hne]
        exact ⟨rfl, S⟩
      ·
        have hxy : x = y := (by have q := h6; rw [it_eqL] at q; simpa using q)
        refine RC.skip (RC.back ?_)
        refine RC.region rfl ?_
        refine RL.ev (.as (.bin rfl rfl rfl) (wi64 (y := ((i + 1 : Nat) : Int)) (by omega) (by omega))) rfl rfl ?_
        refine RL.ev (.move rfl) rfl rfl ?_
        exact RL.nil (fun a ka => ⟨i + 1, ⟨⟨by omega, by rw [List.take_add_one, List.take_add_one, hp, hx, hy, hxy]⟩, S⟩, by omega, ka.keep (keep_of (by repeat (first | exact trivial | refine And.intro rfl ?_)))⟩)
    ·
      have hyes : l = m := (by rw [show i = l.length by omega, List.take_length] at hp; rw [hp, h10, List.take_length])
      refine RC.exit rfl (RC.back ?_)
      refine RC.seq ?_
      refine RC.region rfl ?_
      refine RL.ev (.assign rfl) rfl rfl ?_
      refine RL.nil (RC.back ?_)
      refine RC.done (rs := [.tmp 4]) (vs := [_]) rfl rfl ⟨rfl, trivial⟩ ?_
      -- end 3
      rw [decide_eq_true hyes]
      exact ⟨rfl, S⟩
theorem c_equal11 (l m : List Int) (a b : Option Addr) (c d n k : Nat) (hn : n = l.length) (hk : k = m.length) (w : World) (hl : Sl w a 1 (l.map fun x => [i6 x])) (hm : Sl w b 1 (m.map fun x => [i6 x])) (hb : l.length ≤ 1000000) :
    FC Tryz.prog 95 [.slice a n c, .slice b k d] w (Val (.bool (decide (l = m))) w) := by
  subst hn hk
  refine FC.intro Tryz.func95 rfl Tryz.ntmps95 rfl ?_
  have S := Sub.refl w
  refine RC.seq ?_
  refine RC.region rfl ?_
  refine RL.ev (.assign rfl) rfl rfl ?_
  refine RL.nil (RC.back ?_)
  refine RC.seq ?_
  refine RC.seq ?_
  refine RC.region rfl ?_
  refine RL.ev (.move rfl) rfl rfl ?_
  refine RL.ev (.len sl43 rfl) rfl rfl ?_
  refine RL.ev (.move rfl) rfl rfl ?_
  refine RL.ev (.len sl43 rfl) rfl rfl ?_
  refine RL.ev (.bin rfl rfl rfl) rfl rfl ?_
  refine RL.nil (RC.back ?_)
  refine RC.cond_dec rfl (fun h1 => ?_) (fun h1 => ?_)
  ·
    have hno : ¬ l = m := (fun e => h1 (by rw [e]))
    refine RC.seq ?_
    refine RC.region rfl ?_
    refine RL.ev (.assign rfl) rfl rfl ?_
    refine RL.nil (RC.back ?_)
    refine RC.done (rs := [.tmp 4]) (vs := [_]) rfl rfl ⟨rfl, trivial⟩ ?_
    -- end 1
    rw [decide_eq_false hno]
    exact ⟨rfl, S⟩
  ·
    have h10 : l.length = m.length := (by omega)
    refine RC.skip (RC.back ?_)
    refine RC.seq ?_
    refine RC.seq ?_
    refine RC.region rfl ?_
    refine RL.ev (.move rfl) rfl rfl ?_
    refine RL.ev (.len sl43 rfl) rfl rfl ?_
    refine RL.ev (.move rfl) rfl rfl ?_
    refine RL.nil (RC.back ?_)
    refine RC.block ?_
    refine RC.loop (α := Nat) (fun i => [(0, .slice a l.length c), (1, .slice b m.length d), (12, .int .i64 (l.length : Int)), (13, .int .i64 (i : Int))]) (fun i w2 => (i ≤ l.length ∧ l.take i = m.take i) ∧ Sub w w2) (fun i => l.length - i) 0 (keep_of (by repeat (first | exact trivial | refine And.intro rfl ?_))) (⟨⟨Nat.zero_le _, rfl⟩, S⟩) (fun i w2 hJ => ?_)
    obtain ⟨⟨hi, hp⟩, S⟩ := hJ
    refine RC.seq ?_
    refine RC.region rfl ?_
    refine RL.ev (.bin rfl rfl rfl) rfl rfl ?_
    refine RL.nil (RC.back ?_)
    refine RC.seq ?_
    refine RC.cond_dec rfl (fun h3 => ?_) (fun h3 => ?_)
    ·
      obtain ⟨x, hx⟩ := getSome (l := l) (i := i) (by omega)
      obtain ⟨y, hy⟩ := getSome (l := m) (i := i) (by omega)
      refine RC.skip (RC.back ?_)
      refine RC.seq ?_
      refine RC.block ?_
      refine RC.seq ?_
      refine RC.region rfl ?_
      refine RL.ev (.move rfl) rfl rfl ?_
      refine RL.ev (.assign rfl) rfl rfl ?_
      refine RL.nil (RC.back ?_)
      refine RC.seq ?_
      refine RC.draw rfl mxo (by kernel_rfl) ?_
      refine RQ.ev (.move rfl) rfl rfl ?_
      refine RQ.ev (.move rfl) rfl rfl ?_
      refine RQ.ev (.indexS sl43 rfl rfl (by omega) (hl.is (i := 0) (by simp only [List.length_map, List.length_cons, List.length_nil]; omega))) rfl rfl ?_
      refine RQ.ev (.load1 sh2 rfl ((hl.sub S).one (enc := i6) (i := i) hx)) rfl rfl ?_
      refine RQ.ev (.move rfl) rfl rfl ?_
      refine RQ.ev (.move rfl) rfl rfl ?_
      refine RQ.ev (.indexS sl43 rfl rfl (by omega) (hm.is (i := 0) (by simp only [List.length_map, List.length_cons, List.length_nil]; omega))) rfl rfl ?_
      refine RQ.ev (.load1 sh2 rfl ((hm.sub S).one (enc := i6) (i := i) hy)) rfl rfl ?_
      refine RQ.ev (.bin rfl rfl rfl) rfl rfl ?_
      refine RQ.nil (fun w4 s5 => RC.back ?_)
      have S := S.trans s5
      refine RC.cond_dec rfl (fun h6 => ?_) (fun h6 => ?_)
      ·
        have hne : ¬ l = m := (fun e => by rw [← e, hx] at hy; cases hy; exact h6 rfl)
        refine RC.seq ?_
        refine RC.region rfl ?_
        refine RL.ev (.assign rfl) rfl rfl ?_
        refine RL.nil (RC.back ?_)
        refine RC.done (rs := [.tmp 4]) (vs := [_]) rfl rfl ⟨rfl, trivial⟩ ?_
        -- end 2
        rw [decide_eq_false hne]
        exact ⟨rfl, S⟩
      ·
        have hxy : x = y := Decidable.not_not.1 h6
        refine RC.skip (RC.back ?_)
        refine RC.region rfl ?_
        refine RL.ev (.as (.bin rfl rfl rfl) (wi64 (y := ((i + 1 : Nat) : Int)) (by omega) (by omega))) rfl rfl ?_
        refine RL.ev (.move rfl) rfl rfl ?_
        exact RL.nil (fun a ka => ⟨i + 1, ⟨⟨by omega, by rw [List.take_add_one, List.take_add_one, hp, hx, hy, hxy]⟩, S⟩, by omega, ka.keep (keep_of (by repeat (first | exact trivial | refine And.intro rfl ?_)))⟩)
    ·
      have hyes : l = m := (by rw [show i = l.length by omega, List.take_length] at hp; rw [hp, h10, List.take_length])
      refine RC.exit rfl (RC.back ?_)
      refine RC.seq ?_
      refine RC.region rfl ?_
      refine RL.ev (.assign rfl) rfl rfl ?_
      refine RL.nil (RC.back ?_)
      refine RC.done (rs := [.tmp 4]) (vs := [_]) rfl rfl ⟨rfl, trivial⟩ ?_
      -- end 3
      rw [decide_eq_true hyes]
      exact ⟨rfl, S⟩
end Go.Proofs.YtbjmllnddanniaaGreat
set_option linter.unusedVariables false
set_option linter.unusedSimpArgs false
namespace Go.Proofs.YtbjmllnddanniaaGreat
open Go Go.XL
structure Mo where
  map : List It
  tab : List It
  row : List Int
  heap : List It
/-- where it lies -/
structure Ph where
  a1 : Option Addr
  c1 : Nat
  a2 : Option Addr
  c2 : Nat
  a3 : Option Addr
  c3 : Nat
  a4 : Option Addr
  c4 : Nat
def moC (p : Ph) (m : Mo) : List Value := [.slice p.a1 m.map.length p.c1, .slice p.a2 m.tab.length p.c2, .slice p.a3 m.row.length p.c3, .slice p.a4 m.heap.length p.c4]
def moV (p : Ph) (m : Mo) : Value := .agg (moC p m).toArray
structure MoR (w : World) (p : Ph) (m : Mo) : Prop where
  h1 : Sl w p.a1 2 (m.map.map It.cells)
  h2 : Sl w p.a2 2 (m.tab.map It.cells)
  h3 : Sl w p.a3 1 (m.row.map fun x => [i6 x])
  h4 : Sl w p.a4 2 (m.heap.map It.cells)
structure MoS (p : Ph) (m : Mo) : Prop where
  k1 : m.map.length ≤ p.c1
  k2 : m.tab.length ≤ p.c2
  k3 : m.row.length ≤ p.c3
  k4 : m.heap.length ≤ p.c4
  l1 : m.map.length ≤ 1000
  l2 : m.tab.length ≤ 1000
  l3 : m.row.length ≤ 1000
  l4 : m.heap.length ≤ 1000
theorem MoR.sub {w w' : World} {p : Ph} {m : Mo} (h : MoR w p m) (s : Sub w w') : MoR w' p m := ⟨h.h1.sub s, h.h2.sub s, h.h3.sub s, h.h4.sub s⟩
def upB (x y : It) : Bool := decide (x.k < y.k)
def leB (x y : It) : Bool := decide (¬ lessP y x)
def rightM (m : Mo) : Prop := keysP upB m.map ∧ keysP upB m.tab ∧ (∀ x ∈ m.tab, crowdL m.tab x.k ≤ 9) ∧ m.row.length ≤ 200 ∧ keysP leB m.heap
theorem chain_srt (l : List It) : (∀ i x y, l[i]? = some x → l[i + 1]? = some y → upB x y = true) ↔ Srt l := by
  rw [srt_iff]
  constructor
  · intro h i hi
    obtain ⟨x, hx⟩ := getSome (l := l) (i := i) (by omega)
    obtain ⟨y, hy⟩ := getSome (l := l) (i := i + 1) hi
    rw [kAt_get hx, kAt_get hy]
    exact of_decide_eq_true (h i x y hx hy)
  · intro h i x y hx hy
    have := h i (lt_of_get hy)
    rw [kAt_get hx, kAt_get hy] at this
    exact decide_eq_true this
theorem rightM_iff (m : Mo) : rightM m ↔ (∀ i x y, m.heap[i]? = some x → m.heap[i + 1]? = some y → ¬ lessP y x) ∧ (∀ x ∈ m.tab, crowdL m.tab x.k ≤ 9) ∧ ((∀ x ∈ m.map, inK x) ∧ m.map.length ≤ 200) ∧ ((∀ x ∈ m.tab, inK x) ∧ m.tab.length ≤ 200) ∧ ((∀ x ∈ m.heap, inK x) ∧ m.heap.length ≤ 200) ∧ m.row.length ≤ 200 ∧ Srt m.map ∧ Srt m.tab := by
  unfold rightM keysP
  rw [chain_srt, chain_srt]
  constructor
  · rintro ⟨⟨a1, a2, a3⟩, ⟨b1, b2, b3⟩, c, d, e1, e2, e3⟩
    exact ⟨fun i x y hx hy => of_decide_eq_true (e2 i x y hx hy), c, ⟨a1, a3⟩, ⟨b1, b3⟩, ⟨e1, e3⟩, d, a2, b2⟩
  · rintro ⟨e2, c, ⟨a1, a3⟩, ⟨b1, b3⟩, ⟨e1, e3⟩, d, a2, b2⟩
    exact ⟨⟨a1, a2, a3⟩, ⟨b1, b2, b3⟩, c, d, e1, fun i x y hx hy => decide_eq_true (e2 i x y hx hy), e3⟩
end Go.Proofs.YtbjmllnddanniaaGreat
set_option linter.unusedVariables false
set_option linter.unusedSimpArgs false
namespace Go.Proofs.YtbjmllnddanniaaGreat
open Go Go.XL
structure ResT where
  e : Int
  a : Int
  b : Int
  deriving DecidableEq
def ResT.cells (r : ResT) : List Value := [.int .i64 r.e, .int .i64 r.a, .int .i64 r.b]
end Go.Proofs.YtbjmllnddanniaaGreat
set_option linter.unusedVariables false
set_option linter.unusedSimpArgs false
namespace Go.Proofs.YtbjmllnddanniaaGreat
open Go Go.XL
def SrtH (l : List It) : Prop := ∀ i x y, l[i]? = some x → l[i + 1]? = some y → ¬ lessP y x
theorem SrtH.le {l : List It} (h : SrtH l) : ∀ (d i : Nat) (x y : It), l[i]? = some x → l[i + d]? = some y → ¬ lessP y x
  | 0, i, x, y, hx, hy => by rw [Nat.add_zero, hx] at hy; cases hy; unfold lessP; omega
  | d + 1, i, x, y, hx, hy => by
    obtain ⟨z, hz⟩ := getSome (l := l) (i := i + d) (by have := lt_of_get hy; omega)
    have h1 := SrtH.le h d i x z hx hz
    have h2 := h (i + d) z y hz hy
    unfold lessP at *
    omega
end Go.Proofs.YtbjmllnddanniaaGreat
set_option linter.unusedVariables false
set_option linter.unusedSimpArgs false
namespace Go.Proofs.YtbjmllnddanniaaGreat
open Go Go.XL
theorem Up.or {C C1 C2 : Nat → Prop} {w : World} (h : Up C w C1) (k : Up C w C2) : Up C w (fun x => C1 x ∨ C2 x) := fun i hi => hi.elim (h i) (k i)
theorem MoS.of {p : Ph} {m : Mo} (k1 : m.map.length ≤ p.c1) (k2 : m.tab.length ≤ p.c2) (k3 : m.row.length ≤ p.c3) (k4 : m.heap.length ≤ p.c4) (h : rightM m) : MoS p m := by
  have := (rightM_iff m).1 h
  exact ⟨k1, k2, k3, k4, by omega, by omega, by omega, by omega⟩
theorem Ft.all {M : Nat → Prop} {p : Ph} {m : Mo} {w : World} (h1 : Ft M (fun u => Sl u p.a1 2 (m.map.map It.cells)) w) (h2 : Ft M (fun u => Sl u p.a2 2 (m.tab.map It.cells)) w) (h3 : Ft M (fun u => Sl u p.a3 1 (m.row.map fun x => [i6 x])) w) (h4 : Ft M (fun u => Sl u p.a4 2 (m.heap.map It.cells)) w) : Ft M (fun u => MoR u p m) w :=
  ⟨h1.lt, fun u a => ⟨h1.imm u a, h2.imm u a, h3.imm u a, h4.imm u a⟩⟩
end Go.Proofs.YtbjmllnddanniaaGreat
set_option linter.unusedVariables false
set_option linter.unusedSimpArgs false
namespace Go.Proofs.YtbjmllnddanniaaGreat
open Go Go.XL
theorem _root_.Go.XL.Has.is {w : World} {b : Nat} {cs : List Value} {e : TypeId} (h : Has w b cs e) (cs' : List Value) (hc : cs = cs') : Has w b cs' e := hc ▸ h
def p0 : Ph := ⟨none, 0, none, 0, none, 0, none, 0⟩
def m0 : Mo := ⟨[], [], [], []⟩
theorem m0_S : MoS p0 m0 := ⟨Nat.le_refl _, Nat.le_refl _, Nat.le_refl _, Nat.le_refl _, Nat.zero_le _, Nat.zero_le _, Nat.zero_le _, Nat.zero_le _⟩
theorem c_MSame (p : Ph) (m : Mo) (hs : MoS p m) (q : Ph) (n : Mo) (ht : MoS q n) (w : World) (hm : MoR w p m) (hn : MoR w q n) :
    FC Tryz.prog 42 [moV p m, moV q n] w (Val (.bool (decide (m.map = n.map ∧ m.tab = n.tab ∧ m.row = n.row ∧ m.heap = n.heap))) w) := by
  have l1 := hs.l1
  have l2 := hs.l2
  have l3 := hs.l3
  have l4 := hs.l4
  refine FC.intro Tryz.func42 rfl Tryz.ntmps42 rfl ?_
  have S := Sub.refl w
  refine RC.seq ?_
  refine RC.region rfl ?_
  refine RL.box rfl rfl rfl (fun b_2 w_2 e_2 z_2 hb_2 s_2 => ?_)
  have ge_2 := S.le e_2
  have S := S.trans s_2
  have hb_2 : Has w_2 b_2 ([.slice p.a1 m.map.length p.c1, .slice p.a2 m.tab.length p.c2, .slice p.a3 m.row.length p.c3, .slice p.a4 m.heap.length p.c4]) _ := hb_2
  refine RL.box rfl rfl rfl (fun b_3 w_3 e_3 z_3 hb_3 s_3 => ?_)
  have ge_3 := S.le e_3
  have n_2__3 := hb_2.ne e_3
  have S := S.trans s_3
  have hb_2 := hb_2.sub s_3
  have hb_3 : Has w_3 b_3 ([.slice q.a1 n.map.length q.c1, .slice q.a2 n.tab.length q.c2, .slice q.a3 n.row.length q.c3, .slice q.a4 n.heap.length q.c4]) _ := hb_3
  refine RL.ev (.assign rfl) rfl rfl ?_
  refine RL.nil (RC.back ?_)
  refine RC.seq ?_
  refine RC.region rfl ?_
  refine RL.ev (.field0 fo45_0 rfl) rfl rfl ?_
  refine RL.ev (.load1 sh42 rfl (hb_2.cell rfl)) rfl rfl ?_
  refine RL.ev (.field0 fo45_0 rfl) rfl rfl ?_
  refine RL.ev (.load1 sh42 rfl (hb_3.cell rfl)) rfl rfl ?_
  refine RL.call rfl ok94 (c_equal m.map n.map p.a1 q.a1 p.c1 q.c1 _ _ rfl rfl w_3 (hm.sub S).h1 (hn.sub S).h1 (by omega)) rfl rfl ?_
  rintro _ w1 ⟨rfl, s2⟩
  have S := S.trans s2
  have hb_2 := hb_2.sub s2
  have hb_3 := hb_3.sub s2
  refine RL.ev (.move rfl) rfl rfl ?_
  refine RL.split 10 rfl (fun h3 => ?_) (fun h3 => ?_)
  ·
    have g10 : m.map = n.map := h3
    refine RL.ev (.field0 fo45_1 rfl) rfl rfl ?_
    refine RL.ev (.load1 sh42 rfl (hb_2.cell rfl)) rfl rfl ?_
    refine RL.ev (.field0 fo45_1 rfl) rfl rfl ?_
    refine RL.ev (.load1 sh42 rfl (hb_3.cell rfl)) rfl rfl ?_
    refine RL.call rfl ok94 (c_equal m.tab n.tab p.a2 q.a2 p.c2 q.c2 _ _ rfl rfl w1 (hm.sub S).h2 (hn.sub S).h2 (by omega)) rfl rfl ?_
    rintro _ w4 ⟨rfl, s5⟩
    have S := S.trans s5
    have hb_2 := hb_2.sub s5
    have hb_3 := hb_3.sub s5
    refine RL.ev (.pick_t rfl rfl) rfl rfl ?_
    refine RL.ev (.move rfl) rfl rfl ?_
    refine RL.split 17 rfl (fun h6 => ?_) (fun h6 => ?_)
    ·
      have g17 : m.tab = n.tab := h6
      refine RL.ev (.field0 fo45_2 rfl) rfl rfl ?_
      refine RL.ev (.load1 sh43 rfl (hb_2.cell rfl)) rfl rfl ?_
      refine RL.ev (.field0 fo45_2 rfl) rfl rfl ?_
      refine RL.ev (.load1 sh43 rfl (hb_3.cell rfl)) rfl rfl ?_
      refine RL.call rfl ok95 (c_equal11 m.row n.row p.a3 q.a3 p.c3 q.c3 _ _ rfl rfl w4 (hm.sub S).h3 (hn.sub S).h3 (by omega)) rfl rfl ?_
      rintro _ w7 ⟨rfl, s8⟩
      have S := S.trans s8
      have hb_2 := hb_2.sub s8
      have hb_3 := hb_3.sub s8
      refine RL.ev (.pick_t rfl rfl) rfl rfl ?_
      refine RL.ev (.move rfl) rfl rfl ?_
      refine RL.split 24 rfl (fun h9 => ?_) (fun h9 => ?_)
      ·
        have g24 : m.row = n.row := h9
        refine RL.ev (.field0 fo45_3 rfl) rfl rfl ?_
        refine RL.ev (.load1 sh42 rfl (hb_2.cell rfl)) rfl rfl ?_
        refine RL.ev (.field0 fo45_3 rfl) rfl rfl ?_
        refine RL.ev (.load1 sh42 rfl (hb_3.cell rfl)) rfl rfl ?_
        refine RL.call rfl ok94 (c_equal m.heap n.heap p.a4 q.a4 p.c4 q.c4 _ _ rfl rfl w7 (hm.sub S).h4 (hn.sub S).h4 (by omega)) rfl rfl ?_
        rintro _ w10 ⟨rfl, s11⟩
        have S := S.trans s11
        have hb_2 := hb_2.sub s11
        have hb_3 := hb_3.sub s11
        refine RL.ev (.pick_t rfl rfl) rfl rfl ?_
        refine RL.ev (.assign rfl) rfl rfl ?_
        refine RL.nil (RC.back ?_)
        refine RC.done (rs := [.tmp 4]) (vs := [_]) rfl rfl ⟨rfl, trivial⟩ ?_
        -- end 1
        refine ⟨congrArg Value.bool ?_, S⟩
        first | exact (decide_eq_false (fun e => g10 e.1)).symm | exact (decide_eq_false (fun e => g17 e.2.1)).symm | exact (decide_eq_false (fun e => g24 e.2.2.1)).symm | exact decide_eq_decide.2 ⟨fun h => ⟨g10, g17, g24, h⟩, fun h => h.2.2.2⟩
      ·
        have g24 : ¬ m.row = n.row := h9
        refine RL.off rfl rfl ?_
        refine RL.off rfl rfl ?_
        refine RL.off rfl rfl ?_
        refine RL.off rfl rfl ?_
        refine RL.off rfl rfl ?_
        refine RL.ev (.pick_f rfl rfl) rfl rfl ?_
        refine RL.ev (.assign rfl) rfl rfl ?_
        refine RL.nil (RC.back ?_)
        refine RC.done (rs := [.tmp 4]) (vs := [_]) rfl rfl ⟨rfl, trivial⟩ ?_
        -- end 2
        refine ⟨congrArg Value.bool ?_, S⟩
        first | exact (decide_eq_false (fun e => g10 e.1)).symm | exact (decide_eq_false (fun e => g17 e.2.1)).symm | exact (decide_eq_false (fun e => g24 e.2.2.1)).symm | exact decide_eq_decide.2 ⟨fun h => ⟨g10, g17, g24, h⟩, fun h => h.2.2.2⟩
    ·
      have g17 : ¬ m.tab = n.tab := h6
      refine RL.off rfl rfl ?_
      refine RL.off rfl rfl ?_
      refine RL.off rfl rfl ?_
      refine RL.off rfl rfl ?_
      refine RL.off rfl rfl ?_
      refine RL.ev (.pick_f rfl rfl) rfl rfl ?_
      refine RL.ev (.move rfl) rfl rfl ?_
      refine RL.off rfl rfl ?_
      refine RL.off rfl rfl ?_
      refine RL.off rfl rfl ?_
      refine RL.off rfl rfl ?_
      refine RL.off rfl rfl ?_
      refine RL.ev (.pick_f rfl rfl) rfl rfl ?_
      refine RL.ev (.assign rfl) rfl rfl ?_
      refine RL.nil (RC.back ?_)
      refine RC.done (rs := [.tmp 4]) (vs := [_]) rfl rfl ⟨rfl, trivial⟩ ?_
      -- end 3
      refine ⟨congrArg Value.bool ?_, S⟩
      first | exact (decide_eq_false (fun e => g10 e.1)).symm | exact (decide_eq_false (fun e => g17 e.2.1)).symm | exact (decide_eq_false (fun e => g24 e.2.2.1)).symm | exact decide_eq_decide.2 ⟨fun h => ⟨g10, g17, g24, h⟩, fun h => h.2.2.2⟩
  ·
    have g10 : ¬ m.map = n.map := h3
    refine RL.off rfl rfl ?_
    refine RL.off rfl rfl ?_
    refine RL.off rfl rfl ?_
    refine RL.off rfl rfl ?_
    refine RL.off rfl rfl ?_
    refine RL.ev (.pick_f rfl rfl) rfl rfl ?_
    refine RL.ev (.move rfl) rfl rfl ?_
    refine RL.off rfl rfl ?_
    refine RL.off rfl rfl ?_
    refine RL.off rfl rfl ?_
    refine RL.off rfl rfl ?_
    refine RL.off rfl rfl ?_
    refine RL.ev (.pick_f rfl rfl) rfl rfl ?_
    refine RL.ev (.move rfl) rfl rfl ?_
    refine RL.off rfl rfl ?_
    refine RL.off rfl rfl ?_
    refine RL.off rfl rfl ?_
    refine RL.off rfl rfl ?_
    refine RL.off rfl rfl ?_
    refine RL.ev (.pick_f rfl rfl) rfl rfl ?_
    refine RL.ev (.assign rfl) rfl rfl ?_
    refine RL.nil (RC.back ?_)
    refine RC.done (rs := [.tmp 4]) (vs := [_]) rfl rfl ⟨rfl, trivial⟩ ?_
    -- end 4
    refine ⟨congrArg Value.bool ?_, S⟩
    first | exact (decide_eq_false (fun e => g10 e.1)).symm | exact (decide_eq_false (fun e => g17 e.2.1)).symm | exact (decide_eq_false (fun e => g24 e.2.2.1)).symm | exact decide_eq_decide.2 ⟨fun h => ⟨g10, g17, g24, h⟩, fun h => h.2.2.2⟩
end Go.Proofs.YtbjmllnddanniaaGreat
set_option linter.unusedVariables false
set_option linter.unusedSimpArgs false
namespace Go.Proofs.YtbjmllnddanniaaGreat
open Go Go.XL
def keyOk (x : It) : Prop := -1073741824 ≤ x.k ∧ x.k ≤ 1073741824
def hSrt (l : List It) : Prop := l.Pairwise fun x y => ¬ lessP y x
/-- the references are containers' that hold m -/
structure IsC (A : Ar) (R : Rt) (m : Mo) : Prop where
  ok : AOk A
  map : IsT A R.m m.map
  mapl : m.map.length ≤ 200
  tab : ∃ T, IsH A 10 R.t T ∧ Ap T ∧ T.length ≤ 200 ∧ m.tab.Perm T
  tabs : Srt m.tab
  row : ∃ P, IsR A R.r m.row P
  rowl : m.row.length ≤ 200
  heap : ∃ P L, IsP A R.h P L ∧ m.heap.Perm L
  heaps : hSrt m.heap
  keys : ∀ x ∈ m.map ++ (m.tab ++ m.heap), keyOk x
theorem IsC.isMap {A R m} (h : IsC A R m) : isMap A R.m := ⟨h.ok, m.map, h.map, h.mapl⟩
theorem IsC.isTab {A R m} (h : IsC A R m) : isTab A R.t := let ⟨T, h1, h2, h3, _⟩ := h.tab; ⟨h.ok, T, h1, h2, h3⟩
theorem IsC.isRow {A R m} (h : IsC A R m) : isRow A R.r := let ⟨P, h1⟩ := h.row; ⟨h.ok, m.row, P, h1, h.rowl⟩
theorem srt_perm : ∀ {l m : List It}, Srt l → Srt m → l.Perm m → l = m
  | [], m, _, _, h => (List.nil_perm.1 h).symm
  | x :: l, [], _, _, h => absurd h.length_eq (by simp)
  | x :: l, y :: m, h1, h2, h => by
    have q1 := List.pairwise_cons.1 h1
    have q2 := List.pairwise_cons.1 h2
    have e : x = y := by
      have hx : x ∈ y :: m := h.mem_iff.1 (by simp)
      have hy : y ∈ x :: l := h.mem_iff.2 (by simp)
      rcases List.mem_cons.1 hx with e | hx
      · exact e
      · rcases List.mem_cons.1 hy with e | hy
        · exact e.symm
        · have := q1.1 y hy
          have := q2.1 x hx
          omega
    subst e
    rw [srt_perm q1.2 q2.2 h.cons_inv]
theorem lessP_anti {x y : It} (h : ¬ lessP x y) (k : ¬ lessP y x) : x = y := by
  unfold lessP at *
  obtain ⟨a, b⟩ := x
  obtain ⟨c, d⟩ := y
  simp only [] at h k
  have e1 : a = c := by omega
  have e2 : b = d := by omega
  rw [e1, e2]
theorem hSrt_perm : ∀ {l m : List It}, hSrt l → hSrt m → l.Perm m → l = m
  | [], m, _, _, h => (List.nil_perm.1 h).symm
  | x :: l, [], _, _, h => absurd h.length_eq (by simp)
  | x :: l, y :: m, h1, h2, h => by
    have q1 := List.pairwise_cons.1 h1
    have q2 := List.pairwise_cons.1 h2
    have e : x = y := by
      have hx : x ∈ y :: m := h.mem_iff.1 (by simp)
      have hy : y ∈ x :: l := h.mem_iff.2 (by simp)
      rcases List.mem_cons.1 hx with e | hx
      · exact e
      · rcases List.mem_cons.1 hy with e | hy
        · exact e.symm
        · exact lessP_anti (q2.1 x hx) (q1.1 y hy)
    subst e
    rw [hSrt_perm q1.2 q2.2 h.cons_inv]
theorem IsC.unique {A : Ar} {R : Rt} {m n : Mo} (h : IsC A R m) (k : IsC A R n) : m = n := by
  obtain ⟨T, t1, t2, t3, t4⟩ := h.tab
  obtain ⟨T', s1, s2, s3, s4⟩ := k.tab
  obtain ⟨P, r1⟩ := h.row
  obtain ⟨P', r2⟩ := k.row
  obtain ⟨Q, L, p1, p2⟩ := h.heap
  obtain ⟨Q', L', p3, p4⟩ := k.heap
  have e1 : m.map = n.map := h.map.unique k.map
  have e2 : m.tab = n.tab := srt_perm h.tabs k.tabs (t4.trans ((rowH_perm t1).symm.trans ((rowH_perm s1).trans s4.symm)))
  have e3 : m.row = n.row := (r1.unique r2).1.symm
  have e4 : m.heap = n.heap := hSrt_perm h.heaps k.heaps (by rw [(p1.unique p3).2] at p4; exact p2.trans p4.symm)
  cases m; cases n
  simp only [] at e1 e2 e3 e4
  rw [e1, e2, e3, e4]
theorem IsC.zero {A : Ar} (h : AOk A) : IsC A rt0 m0 :=
  ⟨h, .nil, by decide, ⟨[], isH_nil.2 rfl, List.Pairwise.nil, by decide, .nil⟩, List.Pairwise.nil, ⟨[], .nil⟩, by decide, ⟨[], [], IsP.zero A, .nil⟩, List.Pairwise.nil, fun x hx => by cases hx⟩
end Go.Proofs.YtbjmllnddanniaaGreat
set_option linter.unusedVariables false
set_option linter.unusedSimpArgs false
namespace Go.Proofs.YtbjmllnddanniaaGreat
open Go Go.XL
/-- s' comes from s; what is free then was free -/
structure Gr (n : Nat) (s s' : St) : Prop where
  gs : Gs n s s'
  fr : Fr s.1 s'.1
theorem Gr.refl {s : St} (h : AOk s.1) : Gr 0 s s := ⟨Gs.refl h, fun _ h => h⟩
theorem Gr.mono {n m : Nat} {s s' : St} (h : Gr n s s') (hn : n ≤ m) : Gr m s s' := ⟨h.gs.mono hn, h.fr⟩
theorem Gr.trans {n m : Nat} {a b c : St} (h : Gr n a b) (k : Gr m b c) : Gr (n + m) a c := ⟨h.gs.trans k.gs, fun p hp => h.fr p (k.fr p hp)⟩
section
variable {A0 : Ar} {s s1 s2 : St} {v a b r r1 r2 r3 : Int} {V L R P Q P1 P2 : List Int}
/-- a row that was made of places, and of new ones -/
def Wv (s s' : St) (r : Int) (V P : List Int) : Prop := ∃ M, IsR s'.1 r V M ∧ ∀ p ∈ M, p ∈ P ∨ p ∈ s.1.free ∧ ¬ p ∈ s'.1.free
theorem Wv.right (h : Wv s s1 r V P) : rightR r = true := by obtain ⟨M, h, _⟩ := h; exact h.right
end
end Go.Proofs.YtbjmllnddanniaaGreat
set_option linter.unusedVariables false
set_option linter.unusedSimpArgs false
namespace Go.Proofs.YtbjmllnddanniaaGreat
open Go Go.XL
abbrev Wo (b : Nat) (s : St) (C : Nat → Prop) (u : World) : Prop := FoG 182 b s C u
theorem c_wget (b : Nat) (s : St) (C : Nat → Prop) (r : Int) (hr : U64 r) (w : World) (hF : Ft C (Wo b s C) w) :
    FC Tryz.prog 99 [.pointer (some ⟨b, 0, none⟩), .int .u64 r] w (Val (getN s.1 r).val w) := by
  obtain ⟨hCb, na, fa, nc, fc, M, hbf, hnc, hfc, hA, hMb, hMC⟩ := hF.now
  obtain ⟨e, hgv⟩ := getN_v s.1 r
  have hA := hA.now
  refine FC.intro Tryz.func99 rfl Tryz.ntmps99 rfl ?_
  have S := Sub.refl w
  refine RC.seq ?_
  refine RC.region rfl ?_
  refine RL.alloc ze140 rfl rfl (fun b_4 w_4 e_4 z_4 hb_4 s_4 => ?_)
  have ge_4 := S.le e_4
  have n__4 := hbf.ne e_4
  have S := S.trans s_4
  have hbf := hbf.sub s_4
  refine RL.nil (RC.back ?_)
  refine RC.seq ?_
  refine RC.region rfl ?_
  refine RL.ev (.move rfl) rfl rfl ?_
  refine RL.ev (.nilCheck rfl) rfl rfl ?_
  refine RL.ev (.field0 fo182_0 rfl) rfl rfl ?_
  refine RL.ev (.loadR (wvA na fa nc fc s.1) sh26 rfl (row_pref (xs := wvA na fa nc fc s.1) (ys := [.int .i64 s.2]) hbf) rfl) rfl rfl ?_
  refine RL.ev (.move rfl) rfl rfl ?_
  refine RL.call rfl ok125 (c_aGet s.1 na fa nc fc r hr w_4 (hA.sub S)) rfl rfl ?_
  rintro _ w1 ⟨rfl, s2⟩
  have S := S.trans s2
  have hbf := hbf.sub s2
  have hb_4 := hb_4.sub s2
  refine RL.ev (.as (v' := .tuple #[(getN s.1 r).val, .int .i64 e]) (.move rfl) (by rw [hgv])) rfl rfl ?_
  refine RL.ev (.extract rfl rfl) rfl rfl ?_
  refine RL.ev (.extract rfl rfl) rfl rfl ?_
  refine RL.alloc ze140 rfl rfl (fun b_5 w_5 e_5 z_5 hb_5 s_5 => ?_)
  have ge_5 := S.le e_5
  have n__5 := hbf.ne e_5
  have n_4__5 := hb_4.ne e_5
  have S := S.trans s_5
  have hbf := hbf.sub s_5
  have hb_4 := hb_4.sub s_5
  refine RL.store sh140 rfl rfl rfl hb_5 (by exact Nat.le_of_ble_eq_true rfl) (by rfl) rfl (fun w3 z3 hb_5 a3 => ?_)
  have S := S.upd a3 ge_5
  have hbf := hbf.upd a3 n__5
  have hb_4 := hb_4.upd a3 n_4__5
  have hb_5 : Has w3 b_5 ((getN s.1 r).cells) _ := hb_5.now (by kernel_rfl)
  refine RL.ev (.assign rfl) rfl rfl ?_
  refine RL.nil (RC.back ?_)
  refine RC.seq ?_
  refine RC.region rfl ?_
  refine RL.ev (.loadR ((getN s.1 r).cells) sh140 rfl hb_5.row rfl) rfl rfl ?_
  refine RL.store sh140 rfl rfl rfl hb_4 (by exact Nat.le_of_ble_eq_true rfl) (by rfl) rfl (fun w4 z4 hb_4 a4 => ?_)
  have S := S.upd a4 ge_4
  have hbf := hbf.upd a4 n__4
  have hb_5 := hb_5.upd a4 n_4__5.symm
  have hb_4 : Has w4 b_4 ((getN s.1 r).cells) _ := hb_4.now (by kernel_rfl)
  refine RL.nil (RC.back ?_)
  refine RC.done (rs := [.cell 4 140]) (vs := [_]) rfl rfl ⟨⟨_, rfl, .inr ⟨(getN s.1 r).cells, sh140, hb_4.row, rfl⟩⟩, trivial⟩ ?_
  -- end 1
  exact ⟨rfl, S⟩
end Go.Proofs.YtbjmllnddanniaaGreat
