/-
  What the law WalkSteps leans on, part 3.
-/
import Derived.Test.YtbfjobmebkhblaaPWalkSteps2
set_option linter.unusedVariables false
set_option linter.unusedSimpArgs false
namespace Go.Proofs.Ytbfjobmebkhblaa
open Go Go.XL
def tyC (bN nn cN : Nat) (at_ r : Int) : List Value := [.slice (some ⟨bN, 0, none⟩) nn cN, .slice none 0 0, .int .i64 at_, .int .u64 r]
abbrev nodeL (ns : List Node) : List Value := (ns.map Node.cells).flatten
/-- what Lay answers -/
def LayA (bN nn cN : Nat) (ns : List Node) (at_ k : Nat) (l : List It) (w : World) (v : Value) (w' : World) : Prop :=
  ∃ ns' r, v = .agg (tyC bN nn cN ((at_ + cnt k l : Nat) : Int) r).toArray ∧ LyH ns at_ k l ns' r ∧ Agr (· = bN) w w' ∧ Has w' bN (nodeL ns') 97
theorem c_layFew (bN cN nn k : Nat) (lv : Int) (ns : List Node) (at_ : Nat) (r0 : Int) (l : List It) (M : Nat → Prop) (a : Option Addr) (c m : Nat) (w : World) (hm : m = l.length) (hl : l.length ≤ 1) (hat : at_ + l.length ≤ ns.length) (hnn : ns.length = nn) (hn6 : nn ≤ 1000000) (hI : Ft M (fun u => Sl u a 2 (l.map It.cells)) w) (dN : ∀ k, M k → k ≠ bN) (hbN : Has w bN (nodeL ns) 97) :
    FC Try.prog 45 [.agg (tyC bN nn cN at_ r0).toArray, .slice a m c, .int .i64 lv] w (LayA bN nn cN ns at_ k l w) := by
  subst hm
  have hck : cnt k l = l.length := cnt_few hl
  refine FC.intro Try.func45 rfl Try.ntmps45 rfl ?_
  have G : Agr (· = bN) w w := Agr.refl _ _
  refine RC.seq ?_
  refine RC.region rfl ?_
  refine RL.box rfl rfl rfl (fun b_3 w_3 e_3 z_3 hb_3 s_3 => ?_)
  have nN__3 := hbN.ne e_3
  have d_hI_b_3 := hI.neNew e_3
  have geG_3 := agLe G e_3
  have G := G.trans s_3.agr
  have hbN := hbN.sub s_3
  have hI := hI.sub s_3
  have hb_3 : Has w_3 b_3 (tyC bN nn cN at_ r0) _ := hb_3
  refine RL.alloc ze80 rfl rfl (fun b_6 w_6 e_6 z_6 hb_6 s_6 => ?_)
  have nN__6 := hbN.ne e_6
  have n_3__6 := hb_3.ne e_6
  have d_hI_b_6 := hI.neNew e_6
  have geG_6 := agLe G e_6
  have G := G.trans s_6.agr
  have hbN := hbN.sub s_6
  have hI := hI.sub s_6
  have hb_3 := hb_3.sub s_6
  refine RL.nil (RC.back ?_)
  refine RC.seq ?_
  refine RC.region rfl ?_
  refine RL.ev (.field0 fo80_2 rfl) rfl rfl ?_
  refine RL.store sh36 rfl rfl rfl hb_3 (by exact Nat.le_of_ble_eq_true rfl) (by rfl) rfl (fun w1 z1 hb_3 a1 => ?_)
  have G := agNew G a1 geG_3
  have hbN := hbN.upd a1 nN__3
  have hI := hI.updD a1 d_hI_b_3
  have hb_6 := hb_6.upd a1 n_3__6.symm
  have hb_3 : Has w1 b_3 (tyC bN nn cN at_ 0) _ := hb_3
  refine RL.nil (RC.back ?_)
  refine RC.seq ?_
  refine RC.seq ?_
  refine RC.region rfl ?_
  refine RL.ev (.move rfl) rfl rfl ?_
  refine RL.ev (.len sl26 rfl) rfl rfl ?_
  refine RL.ev (.bin rfl rfl rfl) rfl rfl ?_
  refine RL.nil (RC.back ?_)
  refine RC.cond_dec rfl (fun h2 => ?_) (fun h2 => ?_)
  ·
    obtain rfl : l = [] := List.eq_nil_of_length_eq_zero (by have := h2; omega)
    refine RC.seq ?_
    refine RC.region rfl ?_
    refine RL.ev (.loadR (tyC bN nn cN at_ 0) sh80 rfl hb_3.row rfl) rfl rfl ?_
    refine RL.store sh80 rfl rfl rfl hb_6 (by exact Nat.le_of_ble_eq_true rfl) (by rfl) rfl (fun w3 z3 hb_6 a3 => ?_)
    have G := agNew G a3 geG_6
    have hbN := hbN.upd a3 nN__6
    have hI := hI.updD a3 d_hI_b_6
    have hb_3 := hb_3.upd a3 n_3__6
    have hb_6 : Has w3 b_6 (tyC bN nn cN at_ 0) _ := hb_6.now (by kernel_rfl)
    refine RL.nil (RC.back ?_)
    refine RC.done (rs := [.cell 6 80]) (vs := [_]) rfl rfl ⟨⟨_, rfl, .inr ⟨tyC bN nn cN at_ 0, sh80, hb_6.row, rfl⟩⟩, trivial⟩ ?_
    -- end 1
    exact ⟨ns, 0, (by rw [hck]; rfl), ly_nil _ _ _, G, hbN⟩
  ·
    have q0 : ¬ l.length = 0 := (by have := h2; omega)
    refine RC.skip (RC.back ?_)
    refine RC.seq ?_
    refine RC.seq ?_
    refine RC.region rfl ?_
    refine RL.ev (.move rfl) rfl rfl ?_
    refine RL.ev (.len sl26 rfl) rfl rfl ?_
    refine RL.ev (.bin rfl rfl rfl) rfl rfl ?_
    refine RL.nil (RC.back ?_)
    refine RC.cond_dec rfl (fun h4 => ?_) (fun h4 => ?_)
    ·
      obtain ⟨x, rfl⟩ := List.length_eq_one_iff.1 (show l.length = 1 by have := h4; omega)
      refine RC.seq ?_
      refine RC.drawD (fun k => k = bN) [15] w1.heap.size 16 rfl rfl mxo (fun w5 s6 => ?_)
      have ltD_bN := hbN.lt
      have ltD_hI := fun k hk => (hI.ge k hk).2
      have ltD_b_3 := hb_3.lt
      have ltD_b_6 := hb_6.lt
      have szD := Nat.le_refl w1.heap.size
      have G := G.trans s6.agr
      have hbN := hbN.sub s6
      have hI := hI.sub s6
      have hb_3 := hb_3.sub s6
      have hb_6 := hb_6.sub s6
      have szD := Nat.le_trans szD s6.size
      refine RD.take 0 rfl (by kernel_rfl) (by kernel_rfl) (by kernel_rfl) (fun w' s' => .field0 fo80_0 rfl) rfl rfl ?_
      refine RD.take 1 rfl (by kernel_rfl) (by kernel_rfl) (by kernel_rfl) (fun w' s' => .field0 fo34_0 rfl) rfl rfl ?_
      refine RD.take 2 rfl (by kernel_rfl) (by kernel_rfl) (by kernel_rfl) (fun w' s' => .load1 sh31 rfl ((hb_3.step s' (fun e => e.elim (fun e => nN__3.symm e) (fun e => Nat.not_le.2 ltD_b_3 e))).cell rfl)) rfl rfl ?_
      refine RD.take 3 rfl (by kernel_rfl) (by kernel_rfl) (by kernel_rfl) (fun w' s' => .field0 fo80_1 rfl) rfl rfl ?_
      refine RD.take 4 rfl (by kernel_rfl) (by kernel_rfl) (by kernel_rfl) (fun w' s' => .load1 sh3 rfl ((hb_3.step s' (fun e => e.elim (fun e => nN__3.symm e) (fun e => Nat.not_le.2 ltD_b_3 e))).cell rfl)) rfl rfl ?_
      refine RD.take 5 rfl (by kernel_rfl) (by kernel_rfl) (by kernel_rfl) (fun w' s' => .move rfl) rfl rfl ?_
      refine RD.take 6 rfl (by kernel_rfl) (by kernel_rfl) (by kernel_rfl) (fun w' s' => .indexS sl26 rfl rfl (by omega) (hI.now.is (i := 0) (by simp only [List.length_map, List.length_cons, List.length_nil]; omega))) rfl rfl ?_
      refine RD.take 7 rfl (by kernel_rfl) (by kernel_rfl) (by kernel_rfl) (fun w' s' => .fieldA fo29_0 rfl) rfl rfl ?_
      refine RD.take 8 rfl (by kernel_rfl) (by kernel_rfl) (by kernel_rfl) (fun w' s' => .load1 sh2 rfl ((hI.step s' (fun k hk e => e.elim (fun e => dN k hk e) (Nat.not_le.2 (ltD_hI k hk)))).now.cell (enc := It.cells) (j := 0) (x := x) (i := 0) rfl rfl)) rfl rfl ?_
      refine RD.take 9 rfl (by kernel_rfl) (by kernel_rfl) (by kernel_rfl) (fun w' s' => .move rfl) rfl rfl ?_
      refine RD.take 10 rfl (by kernel_rfl) (by kernel_rfl) (by kernel_rfl) (fun w' s' => .indexS sl26 rfl rfl (by omega) (hI.now.is (i := 0) (by simp only [List.length_map, List.length_cons, List.length_nil]; omega))) rfl rfl ?_
      refine RD.take 11 rfl (by kernel_rfl) (by kernel_rfl) (by kernel_rfl) (fun w' s' => .fieldA fo29_1 rfl) rfl rfl ?_
      refine RD.take 12 rfl (by kernel_rfl) (by kernel_rfl) (by kernel_rfl) (fun w' s' => .load1 sh2 rfl ((hI.step s' (fun k hk e => e.elim (fun e => dN k hk e) (Nat.not_le.2 (ltD_hI k hk)))).now.cell (enc := It.cells) (j := 1) (x := x) (i := 0) rfl rfl)) rfl rfl ?_
      refine RD.take 13 rfl (by kernel_rfl) (by kernel_rfl) (by kernel_rfl) (fun w' s' => .as (v' := .agg (hN 3 0 x.k x.v 0 []).cells.toArray) (.buildS ze97 pl97 rfl rfl) (by rfl)) rfl rfl ?_
      refine RD.take 14 rfl (by kernel_rfl) (by kernel_rfl) (by kernel_rfl) (fun w' s' => .indexO sl31 rfl rfl (by omega)) rfl rfl ?_
      refine RD.all [15] (by kernel_rfl) rfl (RDs.cons rfl ?_ (RDs.nil))
      refine RL.store sh97 rfl rfl rfl hbN (by rw [flat_len (sz := 16) _ (node_rows _), List.length_map]; show 0 + at_ * 16 + 16 ≤ _; omega) (by rfl) rfl (fun w7 z7 hbN a7 => ?_)
      have G := G.trans a7
      have hI := hI.updD a7 dN
      have hb_3 := hb_3.upd a7 nN__3.symm
      have hb_6 := hb_6.upd a7 nN__6.symm
      have szD := Nat.le_trans szD a7.size
      have hbN : Has w7 bN (nodeL (ns.set at_ (hN 3 0 x.k x.v 0 []))) 97 := by rw [nodeL, List.map_set]; exact row_set0 (sz := 16) (i := at_) (by rw [Nat.zero_add] at hbN; exact hbN) (node_rows _) (by rw [List.length_map]; omega) rfl
      refine RD.backW rfl (a7.mono fun k _ e => e ▸ (.inl (rfl))) ?_
      refine RD.done (by kernel_rfl) (RC.back ?_)
      refine RC.seq ?_
      refine RC.region rfl ?_
      refine RL.ev (.field0 fo80_1 rfl) rfl rfl ?_
      refine RL.ev (.load1 sh3 rfl (hb_3.cell rfl)) rfl rfl ?_
      refine RL.ev (.as (.bin rfl rfl rfl) (wi64 (y := ((at_ + 1 : Nat) : Int)) (by omega) (by omega))) rfl rfl ?_
      refine RL.ev (.field0 fo80_1 rfl) rfl rfl ?_
      refine RL.store sh3 rfl rfl rfl hb_3 (by exact Nat.le_of_ble_eq_true rfl) (by rfl) rfl (fun w8 z8 hb_3 a8 => ?_)
      have G := agNew G a8 geG_3
      have hbN := hbN.upd a8 nN__3
      have hI := hI.updD a8 d_hI_b_3
      have hb_6 := hb_6.upd a8 n_3__6.symm
      have hb_3 : Has w8 b_3 (tyC bN nn cN ((at_ + 1 : Nat) : Int) 0) _ := hb_3
      refine RL.nil (RC.back ?_)
      refine RC.seq ?_
      refine RC.region rfl ?_
      refine RL.ev (.field0 fo80_1 rfl) rfl rfl ?_
      refine RL.ev (.load1 sh3 rfl (hb_3.cell rfl)) rfl rfl ?_
      refine RL.ev (.as (.conv i3 i36 rfl) (wu64 (y := (at_ : Int) + 1) (by omega) (by omega))) rfl rfl ?_
      refine RL.ev (.field0 fo80_2 rfl) rfl rfl ?_
      refine RL.store sh36 rfl rfl rfl hb_3 (by exact Nat.le_of_ble_eq_true rfl) (by rfl) rfl (fun w9 z9 hb_3 a9 => ?_)
      have G := agNew G a9 geG_3
      have hbN := hbN.upd a9 nN__3
      have hI := hI.updD a9 d_hI_b_3
      have hb_6 := hb_6.upd a9 n_3__6.symm
      have hb_3 : Has w9 b_3 (tyC bN nn cN ((at_ + 1 : Nat) : Int) ((at_ : Int) + 1)) _ := hb_3
      refine RL.nil (RC.back ?_)
      refine RC.seq ?_
      refine RC.region rfl ?_
      refine RL.ev (.loadR (tyC bN nn cN ((at_ + 1 : Nat) : Int) ((at_ : Int) + 1)) sh80 rfl hb_3.row rfl) rfl rfl ?_
      refine RL.store sh80 rfl rfl rfl hb_6 (by exact Nat.le_of_ble_eq_true rfl) (by rfl) rfl (fun w10 z10 hb_6 a10 => ?_)
      have G := agNew G a10 geG_6
      have hbN := hbN.upd a10 nN__6
      have hI := hI.updD a10 d_hI_b_6
      have hb_3 := hb_3.upd a10 n_3__6
      have hb_6 : Has w10 b_6 (tyC bN nn cN ((at_ + 1 : Nat) : Int) ((at_ : Int) + 1)) _ := hb_6.now (by kernel_rfl)
      refine RL.nil (RC.back ?_)
      refine RC.done (rs := [.cell 6 80]) (vs := [_]) rfl rfl ⟨⟨_, rfl, .inr ⟨tyC bN nn cN ((at_ + 1 : Nat) : Int) ((at_ : Int) + 1), sh80, hb_6.row, rfl⟩⟩, trivial⟩ ?_
      -- end 2
      exact ⟨_, (at_ : Int) + 1, (by rw [hck]; rfl), ly_leaf (by omega), G, hbN⟩
    ·
      exact absurd (show l.length = 1 by omega) (by have := h4; omega)
theorem drop_take1 {l : List It} {n : Nat} {x : It} (h : l[n]? = some x) : (l.drop n).take 1 = [x] := by
  rw [List.take_one, List.head?_drop, h]; rfl
/-- the rounds over keys of one hash -/
structure LcS (w0 : World) (bN cN nn b3 b6 b7 : Nat) (ns : List Node) (at_ : Nat) (l ms : List It) (i : Nat) (rest : List It) (n1 : List Node) (ks : List Int) (r : Int) (a : Option Addr) (m c : Nat) (w : World) : Prop where
  hi : i ≤ l.length
  rp : rest.Perm (ms.drop i)
  F : LyF ns at_ 0 (partsC ms i) n1 ks
  o : Ows w0.heap.size w 29 2 (.slice a m c) (rest.map It.cells)
  h3 : Has w b3 (tyC bN nn cN ((at_ + i : Nat) : Int) r) 80
  h6 : Has w b6 [.slice none 0 0, .slice none 0 0, .int .i64 0, .int .u64 0] 80
  h7 : Has w b7 (hN 4 0 0 0 l.length ks).cells 97
  hN : Has w bN (nodeL n1) 97
  d : ∀ k, ob (.slice a m c) = some k → k ≠ b3 ∧ k ≠ b6 ∧ k ≠ b7 ∧ k ≠ bN
  G : Agr (· = bN) w0 w
set_option maxHeartbeats 1000000 in
theorem c_layC (bN cN nn : Nat) (ns : List Node) (at_ : Nat) (r0 : Int) (l : List It) (hap : Ap l) (M : Nat → Prop) (a : Option Addr) (c m : Nat) (w : World) (hm : m = l.length) (hl2 : 2 ≤ l.length) (hl9 : l.length ≤ 9) (hat : at_ + cnt 0 l ≤ ns.length) (hnn : ns.length = nn) (hn6 : nn ≤ 1000000) (hI : Ft M (fun u => Sl u a 2 (l.map It.cells)) w) (dN : ∀ k, M k → k ≠ bN) (hbN : Has w bN (nodeL ns) 97) :
    FC Try.prog 45 [.agg (tyC bN nn cN at_ r0).toArray, .slice a m c, .int .i64 10] w (LayA bN nn cN ns at_ 0 l w) := by
  subst hm
  have hck : cnt 0 l = 1 + l.length := cnt_0 hl2
  obtain ⟨ms, hmp, hms⟩ := srt_exists hap
  have hmpl := hmp.length_eq
  refine FC.intro Try.func45 rfl Try.ntmps45 rfl ?_
  have G : Agr (· = bN) w w := Agr.refl _ _
  refine RC.seq ?_
  refine RC.region rfl ?_
  refine RL.box rfl rfl rfl (fun b_3 w_3 e_3 z_3 hb_3 s_3 => ?_)
  have nN__3 := hbN.ne e_3
  have d_hI_b_3 := hI.neNew e_3
  have geG_3 := agLe G e_3
  have G := G.trans s_3.agr
  have hbN := hbN.sub s_3
  have hI := hI.sub s_3
  have hb_3 : Has w_3 b_3 (tyC bN nn cN at_ r0) _ := hb_3
  refine RL.alloc ze80 rfl rfl (fun b_6 w_6 e_6 z_6 hb_6 s_6 => ?_)
  have nN__6 := hbN.ne e_6
  have n_3__6 := hb_3.ne e_6
  have d_hI_b_6 := hI.neNew e_6
  have geG_6 := agLe G e_6
  have G := G.trans s_6.agr
  have hbN := hbN.sub s_6
  have hI := hI.sub s_6
  have hb_3 := hb_3.sub s_6
  refine RL.nil (RC.back ?_)
  refine RC.seq ?_
  refine RC.region rfl ?_
  refine RL.ev (.field0 fo80_2 rfl) rfl rfl ?_
  refine RL.store sh36 rfl rfl rfl hb_3 (by exact Nat.le_of_ble_eq_true rfl) (by rfl) rfl (fun w1 z1 hb_3 a1 => ?_)
  have G := agNew G a1 geG_3
  have hbN := hbN.upd a1 nN__3
  have hI := hI.updD a1 d_hI_b_3
  have hb_6 := hb_6.upd a1 n_3__6.symm
  have hb_3 : Has w1 b_3 (tyC bN nn cN at_ 0) _ := hb_3
  refine RL.nil (RC.back ?_)
  refine RC.seq ?_
  refine RC.seq ?_
  refine RC.region rfl ?_
  refine RL.ev (.move rfl) rfl rfl ?_
  refine RL.ev (.len sl26 rfl) rfl rfl ?_
  refine RL.ev (.bin rfl rfl rfl) rfl rfl ?_
  refine RL.nil (RC.back ?_)
  refine RC.cond_dec rfl (fun h2 => ?_) (fun h2 => ?_)
  ·
    exact absurd (show l.length = 0 by have := h2; omega) (by omega)
  ·
    refine RC.skip (RC.back ?_)
    refine RC.seq ?_
    refine RC.seq ?_
    refine RC.region rfl ?_
    refine RL.ev (.move rfl) rfl rfl ?_
    refine RL.ev (.len sl26 rfl) rfl rfl ?_
    refine RL.ev (.bin rfl rfl rfl) rfl rfl ?_
    refine RL.nil (RC.back ?_)
    refine RC.cond_dec rfl (fun h3 => ?_) (fun h3 => ?_)
    ·
      exact absurd (show l.length = 1 by have := h3; omega) (by omega)
    ·
      refine RC.skip (RC.back ?_)
      refine RC.seq ?_
      refine RC.region rfl ?_
      refine RL.ev (.move rfl) rfl rfl ?_
      refine RL.ev (.len sl26 rfl) rfl rfl ?_
      refine RL.ev (.as (v' := .agg (hN 2 0 0 0 l.length []).cells.toArray) (.buildS ze97 pl97 rfl rfl) (by rfl)) rfl rfl ?_
      refine RL.alloc ze97 rfl rfl (fun b_7 w_7 e_7 z_7 hb_7 s_7 => ?_)
      have nN__7 := hbN.ne e_7
      have n_3__7 := hb_3.ne e_7
      have n_6__7 := hb_6.ne e_7
      have d_hI_b_7 := hI.neNew e_7
      have geG_7 := agLe G e_7
      have G := G.trans s_7.agr
      have hbN := hbN.sub s_7
      have hI := hI.sub s_7
      have hb_3 := hb_3.sub s_7
      have hb_6 := hb_6.sub s_7
      refine RL.store sh97 rfl rfl rfl hb_7 (by exact Nat.le_of_ble_eq_true rfl) (by rfl) rfl (fun w4 z4 hb_7 a4 => ?_)
      have G := agNew G a4 geG_7
      have hbN := hbN.upd a4 nN__7
      have hI := hI.updD a4 d_hI_b_7
      have hb_3 := hb_3.upd a4 n_3__7
      have hb_6 := hb_6.upd a4 n_6__7
      refine RL.nil (RC.back ?_)
      refine RC.seq ?_
      refine RC.seq ?_
      refine RC.region rfl ?_
      refine RL.ev (.move rfl) rfl rfl ?_
      refine RL.ev (.as (v' := .bool true) (.bin rfl rfl rfl) (congrArg Value.bool (decide_eq_true (by decide)))) rfl rfl ?_
      refine RL.nil (RC.back ?_)
      refine RC.cond_t rfl ?_
      refine RC.seq ?_
      refine RC.region rfl ?_
      refine RL.ev (.field0 fo97_0 rfl) rfl rfl ?_
      refine RL.store sh3 rfl rfl rfl hb_7 (by exact Nat.le_of_ble_eq_true rfl) (by rfl) rfl (fun w5 z5 hb_7 a5 => ?_)
      have G := agNew G a5 geG_7
      have hbN := hbN.upd a5 nN__7
      have hI := hI.updD a5 d_hI_b_7
      have hb_3 := hb_3.upd a5 n_3__7
      have hb_6 := hb_6.upd a5 n_6__7
      have hb_7 : Has w5 b_7 (hN 4 0 0 0 l.length []).cells 97 := hb_7
      refine RL.nil (RC.back ?_)
      refine RC.seq ?_
      refine RC.region rfl ?_
      refine RL.buildSlice0 sl26 rfl rfl (fun b_51 w_51 e_51 z_51 hb_51 s_51 => ?_)
      have nN__51 := hbN.ne e_51
      have n_3__51 := hb_3.ne e_51
      have n_6__51 := hb_6.ne e_51
      have n_7__51 := hb_7.ne e_51
      have d_hI_b_51 := hI.neNew e_51
      have geG_51 := agLe G e_51
      have G := G.trans s_51.agr
      have hbN := hbN.sub s_51
      have hI := hI.sub s_51
      have hb_3 := hb_3.sub s_51
      have hb_6 := hb_6.sub s_51
      have hb_7 := hb_7.sub s_51
      refine RL.ev (.assign rfl) rfl rfl ?_
      refine RL.nil (RC.back ?_)
      refine RC.seq ?_
      refine RC.region rfl ?_
      refine RL.ev (.move rfl) rfl rfl ?_
      refine RL.ev (.move rfl) rfl rfl ?_
      have szG_54 := G.size
      have ltbN_54 := hbN.lt
      have ltb_3_54 := hb_3.lt
      have ltb_6_54 := hb_6.lt
      have ltb_7_54 := hb_7.lt
      have ltb_51_54 := hb_51.lt
      refine RL.append2 (base := w.heap.size) (rows := []) (news := l.map It.cells) sl26 ze29 rfl rfl rfl rfl (.inl (Ows.lit0 hb_51 (by omega))) hI.now (by (try simp only [List.length_map]); first | done | rfl) (by intro r hr; obtain ⟨x, _, rfl⟩ := List.mem_map.1 hr; rfl) (by rw [List.all_eq_true]; intro r hr; obtain ⟨x, _, rfl⟩ := List.mem_map.1 hr; rfl) (by (try simp only [List.length_map, List.length_nil, List.length_append, List.length_cons]); omega) (by (try simp only [List.length_map, List.length_nil, List.length_append, List.length_cons]); omega) (by omega) rfl rfl (fun v_54 w_54 hc_54 ho_54 ag_54 ob_54 => ?_)
      have o54 := ho_54 (.inr (Ows.lit0 hb_51 (by omega)))
      have d_o54_bN := obNe ob_54 (fun k hk e => nN__51.symm ((obLit hk).trans e)) hbN.lt
      have dd_o54_hI := obDF ob_54 (fun k hk h2 => d_hI_b_51 k h2 (obLit hk).symm) (fun k hk => (hI.ge k hk).2)
      have d_o54_b_3 := obNe ob_54 (fun k hk e => n_3__51.symm ((obLit hk).trans e)) hb_3.lt
      have d_o54_b_6 := obNe ob_54 (fun k hk e => n_6__51.symm ((obLit hk).trans e)) hb_6.lt
      have d_o54_b_7 := obNe ob_54 (fun k hk e => n_7__51.symm ((obLit hk).trans e)) hb_7.lt
      have G := agApp G ag_54 (by first | exact Nat.le_refl _ | omega)
      have hbN := hbN.step ag_54 (fun e => nN__51.symm (obLit e.1))
      have hI := hI.step ag_54 (fun k hk e => (fun k hk h2 => d_hI_b_51 k h2 (obLit hk).symm) k e.1 hk)
      have hb_3 := hb_3.step ag_54 (fun e => n_3__51.symm (obLit e.1))
      have hb_6 := hb_6.step ag_54 (fun e => n_6__51.symm (obLit e.1))
      have hb_7 := hb_7.step ag_54 (fun e => n_7__51.symm (obLit e.1))
      obtain ⟨a_54, c_54, rfl, k_54⟩ := o54.form
      rw [List.nil_append] at o54
      refine RL.ev (.assign rfl) rfl rfl ?_
      refine RL.nil (RC.back ?_)
      refine RC.seq ?_
      refine RC.region rfl ?_
      refine RL.ev (.move rfl) rfl rfl ?_
      refine RL.ev (.len sl26 rfl) rfl rfl ?_
      refine RL.ev (.move rfl) rfl rfl ?_
      refine RL.nil (RC.back ?_)
      refine RC.block ?_
      refine RC.loop (α := Nat × List It × List Node × List Int × Int × (Option Addr × Nat × Nat)) (fun x => [(3, .pointer (some ⟨b_3, 0, none⟩)), (6, .pointer (some ⟨b_6, 0, none⟩)), (7, .pointer (some ⟨b_7, 0, none⟩)), (8, .slice x.2.2.2.2.2.1 x.2.2.2.2.2.2.1 x.2.2.2.2.2.2.2), (56, .int .i64 (l.length : Int)), (57, .int .i64 (x.1 : Int))]) (fun x w6 => LcS w bN cN nn b_3 b_6 b_7 ns at_ l ms x.1 x.2.1 x.2.2.1 x.2.2.2.1 x.2.2.2.2.1 x.2.2.2.2.2.1 x.2.2.2.2.2.2.1 x.2.2.2.2.2.2.2 w6) (fun x => l.length - x.1) (0, l, ns, [], 0, a_54, _, c_54) (keep_of (by repeat (first | exact trivial | refine And.intro rfl ?_))) (⟨Nat.zero_le _, hmp.symm, LyF.nil _ _ _, o54, hb_3, hb_6, hb_7, hbN, fun k hk => ⟨d_o54_b_3 k hk, d_o54_b_6 k hk, d_o54_b_7 k hk, d_o54_bN k hk⟩, G⟩) (fun x w6 hJ => ?_)
      obtain ⟨i, rest, n1, ks, rr, ar, mr, cr⟩ := x; obtain ⟨hi, hrp, hF, o, hb_3, hb_6, hb_7, hbN, dd, G⟩ := hJ; simp only [] at hi hrp hF o hb_3 hb_7 hbN dd; obtain rfl := o.sl.2; have szB := G.size; have hrl := hrp.length_eq; rw [List.length_drop] at hrl; have dd3 : ∀ k, ob (.slice ar (rest.map It.cells).length cr) = some k → k ≠ b_3 := fun k hk => (dd k hk).1; have dd6 : ∀ k, ob (.slice ar (rest.map It.cells).length cr) = some k → k ≠ b_6 := fun k hk => (dd k hk).2.1; have dd7 : ∀ k, ob (.slice ar (rest.map It.cells).length cr) = some k → k ≠ b_7 := fun k hk => (dd k hk).2.2.1; have ddN : ∀ k, ob (.slice ar (rest.map It.cells).length cr) = some k → k ≠ bN := fun k hk => (dd k hk).2.2.2; have hks := hF.kl; rw [partsC_len (by omega)] at hks; have hnl1 := hF.len
      refine RC.seq ?_
      refine RC.region rfl ?_
      refine RL.ev (.bin rfl rfl rfl) rfl rfl ?_
      refine RL.nil (RC.back ?_)
      refine RC.seq ?_
      refine RC.cond_dec rfl (fun h7 => ?_) (fun h7 => ?_)
      ·
        have h58 := h7
        simp only [] at h58
        have hi9 : i < 9 := (by omega)
        refine RC.skip (RC.back ?_)
        refine RC.seq ?_
        refine RC.block ?_
        refine RC.seq ?_
        refine RC.region rfl ?_
        refine RL.ev (.move rfl) rfl rfl ?_
        refine RL.ev (.assign rfl) rfl rfl ?_
        refine RL.nil (RC.back ?_)
        refine RC.seq ?_
        refine RC.region rfl ?_
        refine RL.ev (.move rfl) rfl rfl ?_
        refine RL.call rfl ok63 (c_refLeast rest ar cr _ (List.length_map _) (by omega) w6 o.sl.1 (by omega)) rfl rfl ?_
        rintro _ w8 ⟨s9, n, x, rfl, hn, hle⟩
        have G := G.trans s9.agr
        have hbN := hbN.sub s9
        have o := o.sub s9
        have hb_3 := hb_3.sub s9
        have hb_6 := hb_6.sub s9
        have hb_7 := hb_7.sub s9
        have szB := Nat.le_trans szB s9.size
        obtain ⟨hmi, hrp2⟩ := least_is hms hrp hn hle
        have hnl2 := lt_of_get hn
        have hcr : rest.length ≤ cr := (by obtain ⟨_, c', e, h⟩ := o.form; cases e; rw [List.length_map] at h; exact h)
        have ht1 : (rest.take n).length = n := (by rw [List.length_take]; omega)
        have ht2 : (rest.drop (n + 1)).length = rest.length - (n + 1) := List.length_drop
        refine RL.ev (.assign rfl) rfl rfl ?_
        refine RL.nil (RC.back ?_)
        refine RC.seq ?_
        refine RC.drawD (fun k => k = b_3 ∨ k = bN) [6, 7] w8.heap.size 8 rfl rfl mxo (fun w10 s11 => ?_)
        have ltD_bN := hbN.lt
        have ltD_o := fun k hk => (o.ge k hk).2
        have ltD_b_3 := hb_3.lt
        have ltD_b_6 := hb_6.lt
        have ltD_b_7 := hb_7.lt
        have szD := Nat.le_refl w8.heap.size
        have G := G.trans s11.agr
        have hbN := hbN.sub s11
        have o := o.sub s11
        have hb_3 := hb_3.sub s11
        have hb_6 := hb_6.sub s11
        have hb_7 := hb_7.sub s11
        have szB := Nat.le_trans szB s11.size
        have szD := Nat.le_trans szD s11.size
        refine RD.takeL 0 rfl (by kernel_rfl) (by kernel_rfl) (by kernel_rfl) (by kernel_rfl) (fun w' s' => .loadR (tyC bN nn cN ((at_ + i : Nat) : Int) rr) sh80 rfl (hb_3.step s' (fun e => Nat.not_le.2 ltD_b_3 e)).row rfl) rfl rfl ?_
        refine RD.take 1 rfl (by kernel_rfl) (by kernel_rfl) (by kernel_rfl) (fun w' s' => .move rfl) rfl rfl ?_
        refine RD.take 2 rfl (by kernel_rfl) (by kernel_rfl) (by kernel_rfl) (fun w' s' => .move rfl) rfl rfl ?_
        refine RD.take 3 rfl (by kernel_rfl) (by kernel_rfl) (by kernel_rfl) (fun w' s' => .move rfl) rfl rfl ?_
        refine RD.take 4 rfl (by kernel_rfl) (by kernel_rfl) (by kernel_rfl) (fun w' s' => .as (.bin rfl rfl rfl) (wi64 (y := ((n + 1 : Nat) : Int)) (by omega) (by omega))) rfl rfl ?_
        refine RD.take 5 rfl (by kernel_rfl) (by kernel_rfl) (by kernel_rfl) (fun w' s' => .as (v' := .slice (if cr = n then ar else ar.map (·.add (n * 2))) 1 (cr - n)) (.sliceLH sl26 rfl rfl rfl (by simp only []; omega)) (by congr 1; show n + 1 - n = 1; omega)) rfl rfl ?_
        refine RD.all [6] (by kernel_rfl) rfl (RDs.cons rfl ?_ (RDs.nil))
        refine RL.call rfl ok45 (c_layFew bN cN nn 0 10 n1 (at_ + i) rr [x] (fun k => ob (.slice ar (rest.map It.cells).length cr) = some k) _ _ 1 w10 rfl (Nat.le_refl 1) (by simp only [List.length_singleton]; omega) (hnl1.trans hnn) hn6 (o.ft.imp fun u h => by have h2 := slTakeM (slDropM h.sl.1 n hcr) 1; rw [drop_take1 hn] at h2; exact h2) ddN hbN) rfl rfl ?_
        rintro vL w12 ⟨n2, r2, hv, hLy, ag1, hN1⟩
        have G := G.trans ag1
        have o := o.updD ag1 ddN
        have hb_3 := hb_3.upd ag1 nN__3.symm
        have hb_6 := hb_6.upd ag1 nN__6.symm
        have hb_7 := hb_7.upd ag1 nN__7.symm
        have szB := Nat.le_trans szB ag1.size
        have szD := Nat.le_trans szD ag1.size
        rw [show cnt 0 [x] = 1 from cnt_few (Nat.le_refl 1)] at hv
        subst hv
        have hbN := hN1
        have hF2 := hF.step (by rw [partsC_sum (by omega)]) hLy
        rw [← partsC_succ hmi] at hF2
        refine RD.backW rfl (ag1.mono fun k _ e => .inl (.inr e)) ?_
        refine RD.all [7] (by kernel_rfl) rfl (RDs.cons rfl ?_ (RDs.nil))
        refine RL.store sh80 rfl rfl rfl hb_3 (by exact Nat.le_of_ble_eq_true rfl) (by rfl) rfl (fun w14 z14 hb_3 a14 => ?_)
        have G := agNew G a14 geG_3
        have hbN := hbN.upd a14 nN__3
        have o := o.updD a14 dd3
        have hb_6 := hb_6.upd a14 n_3__6.symm
        have hb_7 := hb_7.upd a14 n_3__7.symm
        have szB := Nat.le_trans szB a14.size
        have szD := Nat.le_trans szD a14.size
        have hb_3 : Has w14 b_3 (tyC bN nn cN ((at_ + (i + 1) : Nat) : Int) r2) _ := hb_3.now (by kernel_rfl)
        refine RD.backW rfl (a14.mono fun k _ e => e ▸ (.inl (.inl rfl))) ?_
        refine RD.done (by kernel_rfl) (RC.back ?_)
        refine RC.seq ?_
        refine RC.region rfl ?_
        refine RL.ev (.move rfl) rfl rfl ?_
        refine RL.ev (.field0 fo80_2 rfl) rfl rfl ?_
        refine RL.ev (.load1 sh36 rfl (hb_3.cell rfl)) rfl rfl ?_
        refine RL.ev (.field0 fo97_5 rfl) rfl rfl ?_
        refine RL.ev (.indexArr ar95 rfl rfl (by omega)) rfl rfl ?_
        refine RL.store sh36 rfl rfl rfl hb_7 (by show 5 + i * 1 + 1 ≤ 16; omega) (by rfl) rfl (fun w15 z15 hb_7 a15 => ?_)
        have G := agNew G a15 geG_7
        have hbN := hbN.upd a15 nN__7
        have o := o.updD a15 dd7
        have hb_3 := hb_3.upd a15 n_3__7
        have hb_6 := hb_6.upd a15 n_6__7
        have szB := Nat.le_trans szB a15.size
        have hb_7 : Has w15 b_7 (hN 4 0 0 0 l.length (ks ++ [r2])).cells 97 := (by rw [← kids_put 4 0 l.length ks r2 hks.symm hi9]; exact hb_7)
        refine RL.nil (RC.back ?_)
        refine RC.seq ?_
        refine RC.region rfl ?_
        refine RL.buildSlice0 sl26 rfl rfl (fun b_74 w_74 e_74 z_74 hb_74 s_74 => ?_)
        have nN__74 := hbN.ne e_74
        have n_3__74 := hb_3.ne e_74
        have n_6__74 := hb_6.ne e_74
        have n_7__74 := hb_7.ne e_74
        have d_o_b_74 := o.neNew e_74
        have geG_74 := agLe G e_74
        have G := G.trans s_74.agr
        have hbN := hbN.sub s_74
        have o := o.sub s_74
        have hb_3 := hb_3.sub s_74
        have hb_6 := hb_6.sub s_74
        have hb_7 := hb_7.sub s_74
        have szB := Nat.le_trans szB s_74.size
        refine RL.ev (.assign rfl) rfl rfl ?_
        refine RL.nil (RC.back ?_)
        refine RC.seq ?_
        refine RC.region rfl ?_
        refine RL.ev (.move rfl) rfl rfl ?_
        refine RL.ev (.move rfl) rfl rfl ?_
        refine RL.ev (.move rfl) rfl rfl ?_
        refine RL.ev (.as (v' := .slice ar (rest.take n).length cr) (.sliceHi sl26 rfl rfl (by simp only []; omega)) (by rw [List.length_take, Nat.min_eq_left (by omega)]; rfl)) rfl rfl ?_
        have szG_79 := G.size
        have ltbN_79 := hbN.lt
        have ltb_3_79 := hb_3.lt
        have ltb_6_79 := hb_6.lt
        have ltb_7_79 := hb_7.lt
        have ltb_74_79 := hb_74.lt
        refine RL.append2 (base := w.heap.size) (rows := []) (news := (rest.take n).map It.cells) sl26 ze29 rfl rfl rfl rfl (.inl (Ows.lit0 hb_74 (by omega))) (slTakeM o.sl.1 n) (by (try simp only [List.length_map]); first | done | rfl) (by intro r hr; obtain ⟨x, _, rfl⟩ := List.mem_map.1 hr; rfl) (by rw [List.all_eq_true]; intro r hr; obtain ⟨x, _, rfl⟩ := List.mem_map.1 hr; rfl) (by (try simp only [List.length_map, List.length_nil, List.length_append, List.length_cons]); omega) (by (try simp only [List.length_map, List.length_nil, List.length_append, List.length_cons]); omega) (by omega) rfl rfl (fun v_79 w_79 hc_79 ho_79 ag_79 ob_79 => ?_)
        have o79 := ho_79 (.inr (Ows.lit0 hb_74 (by omega)))
        have d_o79_bN := obNe ob_79 (fun k hk e => nN__74.symm ((obLit hk).trans e)) hbN.lt
        have dd_o79_o := obDD ob_79 (fun k hk h2 => d_o_b_74 k h2 (obLit hk).symm) (fun k hk => (o.ge k hk).2)
        have d_o79_b_3 := obNe ob_79 (fun k hk e => n_3__74.symm ((obLit hk).trans e)) hb_3.lt
        have d_o79_b_6 := obNe ob_79 (fun k hk e => n_6__74.symm ((obLit hk).trans e)) hb_6.lt
        have d_o79_b_7 := obNe ob_79 (fun k hk e => n_7__74.symm ((obLit hk).trans e)) hb_7.lt
        have G := agApp G ag_79 (by first | exact Nat.le_refl _ | omega)
        have hbN := hbN.step ag_79 (fun e => nN__74.symm (obLit e.1))
        have o := o.step ag_79 (fun k hk e => (fun k hk h2 => d_o_b_74 k h2 (obLit hk).symm) k e.1 hk)
        have hb_3 := hb_3.step ag_79 (fun e => n_3__74.symm (obLit e.1))
        have hb_6 := hb_6.step ag_79 (fun e => n_6__74.symm (obLit e.1))
        have hb_7 := hb_7.step ag_79 (fun e => n_7__74.symm (obLit e.1))
        have szB := Nat.le_trans szB ag_79.size
        obtain ⟨a_79, c_79, rfl, k_79⟩ := o79.form
        rw [List.nil_append] at o79
        refine RL.ev (.assign rfl) rfl rfl ?_
        refine RL.nil (RC.back ?_)
        refine RC.seq ?_
        refine RC.region rfl ?_
        refine RL.ev (.move rfl) rfl rfl ?_
        refine RL.ev (.move rfl) rfl rfl ?_
        refine RL.ev (.move rfl) rfl rfl ?_
        refine RL.ev (.as (.bin rfl rfl rfl) (wi64 (y := ((n + 1 : Nat) : Int)) (by omega) (by omega))) rfl rfl ?_
        refine RL.ev (.as (v' := .slice (if cr = n + 1 then ar else ar.map (·.add ((n + 1) * 2))) (rest.drop (n + 1)).length (cr - (n + 1))) (.sliceLo sl26 rfl rfl (by simp only [List.length_map]; omega)) (by rw [List.length_drop]; first | rfl | (simp only [List.length_map]; rfl))) rfl rfl ?_
        have szG_85 := G.size
        have ltbN_85 := hbN.lt
        have ltb_3_85 := hb_3.lt
        have ltb_6_85 := hb_6.lt
        have ltb_7_85 := hb_7.lt
        refine RL.append2 (base := w.heap.size) (rows := (rest.take n).map It.cells) (news := (rest.drop (n + 1)).map It.cells) sl26 ze29 rfl rfl rfl rfl (.inl o79) (slDropM o.sl.1 (n + 1) hcr) (by (try simp only [List.length_map]); first | done | rfl) (by intro r hr; obtain ⟨x, _, rfl⟩ := List.mem_map.1 hr; rfl) (by rw [List.all_eq_true]; intro r hr; obtain ⟨x, _, rfl⟩ := List.mem_map.1 hr; rfl) (by (try simp only [List.length_map, List.length_nil, List.length_append, List.length_cons]); omega) (by (try simp only [List.length_map, List.length_nil, List.length_append, List.length_cons]); omega) (by omega) rfl rfl (fun v_85 w_85 hc_85 ho_85 ag_85 ob_85 => ?_)
        have o85 := ho_85 (.inr o79)
        have d_o85_bN := obNe ob_85 d_o79_bN hbN.lt
        have dd_o85_o := obDD ob_85 dd_o79_o (fun k hk => (o.ge k hk).2)
        have d_o85_b_3 := obNe ob_85 d_o79_b_3 hb_3.lt
        have d_o85_b_6 := obNe ob_85 d_o79_b_6 hb_6.lt
        have d_o85_b_7 := obNe ob_85 d_o79_b_7 hb_7.lt
        have G := agApp G ag_85 (by first | exact Nat.le_refl _ | omega)
        have hbN := hbN.step ag_85 (fun e => d_o79_bN _ e.1 rfl)
        have o := o.step ag_85 (fun k hk e => dd_o79_o k e.1 hk)
        have hb_3 := hb_3.step ag_85 (fun e => d_o79_b_3 _ e.1 rfl)
        have hb_6 := hb_6.step ag_85 (fun e => d_o79_b_6 _ e.1 rfl)
        have hb_7 := hb_7.step ag_85 (fun e => d_o79_b_7 _ e.1 rfl)
        have szB := Nat.le_trans szB ag_85.size
        obtain ⟨a_85, c_85, rfl, k_85⟩ := o85.form
        refine RL.ev (.assign rfl) rfl rfl ?_
        refine RL.nil (RC.back ?_)
        refine RC.region rfl ?_
        refine RL.ev (.move rfl) rfl rfl ?_
        refine RL.ev (.assign rfl) rfl rfl ?_
        refine RL.nil (RC.back ?_)
        refine RC.region rfl ?_
        refine RL.ev (.as (.bin rfl rfl rfl) (wi64 (y := ((i + 1 : Nat) : Int)) (by simp only []; omega) (by omega))) rfl rfl ?_
        refine RL.ev (.move rfl) rfl rfl ?_
        exact RL.nil (fun a ka => ⟨(i + 1, rest.take n ++ rest.drop (n + 1), n2, ks ++ [r2], r2, a_85, _, c_85), ⟨by simp only []; omega, hrp2, hF2, by show Ows _ _ _ _ _ ((rest.take n ++ rest.drop (n + 1)).map It.cells); rw [List.map_append]; exact o85, hb_3, hb_6, hb_7, hbN, fun k hk => ⟨d_o85_b_3 k hk, d_o85_b_6 k hk, d_o85_b_7 k hk, d_o85_bN k hk⟩, G⟩, by simp only []; omega, ka.keep (keep_of (by repeat (first | exact trivial | refine And.intro rfl ?_)))⟩)
      ·
        have h58 := h7
        simp only [] at h58
        obtain rfl : i = l.length := (by omega)
        refine RC.exit rfl (RC.back ?_)
        refine RC.seq ?_
        refine RC.region rfl ?_
        refine RL.ev (.field0 fo80_0 rfl) rfl rfl ?_
        refine RL.ev (.field0 fo34_0 rfl) rfl rfl ?_
        refine RL.ev (.load1 sh31 rfl (hb_3.cell rfl)) rfl rfl ?_
        refine RL.ev (.field0 fo80_1 rfl) rfl rfl ?_
        refine RL.ev (.load1 sh3 rfl (hb_3.cell rfl)) rfl rfl ?_
        refine RL.ev (.loadR ((hN 4 0 0 0 l.length ks).cells) sh97 rfl hb_7.row rfl) rfl rfl ?_
        refine RL.ev (.indexO sl31 rfl rfl (by omega)) rfl rfl ?_
        refine RL.store sh97 rfl rfl rfl hbN (by rw [flat_len (sz := 16) _ (node_rows _), List.length_map]; show 0 + (at_ + l.length) * 16 + 16 ≤ _; omega) (by rfl) rfl (fun w16 z16 hbN a16 => ?_)
        have G := G.trans a16
        have o := o.updD a16 ddN
        have hb_3 := hb_3.upd a16 nN__3.symm
        have hb_6 := hb_6.upd a16 nN__6.symm
        have hb_7 := hb_7.upd a16 nN__7.symm
        have szB := Nat.le_trans szB a16.size
        have hbN : Has w16 bN (nodeL (n1.set (at_ + l.length) (hN 4 0 0 0 l.length ks))) 97 := by rw [nodeL, List.map_set]; exact row_set0 (sz := 16) (i := at_ + l.length) (by rw [Nat.zero_add] at hbN; exact hbN) (node_rows _) (by rw [List.length_map]; omega) rfl
        refine RL.nil (RC.back ?_)
        refine RC.seq ?_
        refine RC.region rfl ?_
        refine RL.ev (.field0 fo80_1 rfl) rfl rfl ?_
        refine RL.ev (.load1 sh3 rfl (hb_3.cell rfl)) rfl rfl ?_
        refine RL.ev (.as (.bin rfl rfl rfl) (wi64 (y := ((at_ + l.length + 1 : Nat) : Int)) (by omega) (by omega))) rfl rfl ?_
        refine RL.ev (.field0 fo80_1 rfl) rfl rfl ?_
        refine RL.store sh3 rfl rfl rfl hb_3 (by exact Nat.le_of_ble_eq_true rfl) (by rfl) rfl (fun w17 z17 hb_3 a17 => ?_)
        have G := agNew G a17 geG_3
        have hbN := hbN.upd a17 nN__3
        have o := o.updD a17 dd3
        have hb_6 := hb_6.upd a17 n_3__6.symm
        have hb_7 := hb_7.upd a17 n_3__7.symm
        have szB := Nat.le_trans szB a17.size
        have hb_3 : Has w17 b_3 (tyC bN nn cN ((at_ + l.length + 1 : Nat) : Int) rr) _ := hb_3
        refine RL.nil (RC.back ?_)
        refine RC.seq ?_
        refine RC.region rfl ?_
        refine RL.ev (.field0 fo80_1 rfl) rfl rfl ?_
        refine RL.ev (.load1 sh3 rfl (hb_3.cell rfl)) rfl rfl ?_
        refine RL.ev (.as (.conv i3 i36 rfl) (wu64 (y := ((at_ + l.length : Nat) : Int) + 1) (by omega) (by omega))) rfl rfl ?_
        refine RL.ev (.field0 fo80_2 rfl) rfl rfl ?_
        refine RL.store sh36 rfl rfl rfl hb_3 (by exact Nat.le_of_ble_eq_true rfl) (by rfl) rfl (fun w18 z18 hb_3 a18 => ?_)
        have G := agNew G a18 geG_3
        have hbN := hbN.upd a18 nN__3
        have o := o.updD a18 dd3
        have hb_6 := hb_6.upd a18 n_3__6.symm
        have hb_7 := hb_7.upd a18 n_3__7.symm
        have szB := Nat.le_trans szB a18.size
        have hb_3 : Has w18 b_3 (tyC bN nn cN ((at_ + l.length + 1 : Nat) : Int) (((at_ + l.length : Nat) : Int) + 1)) _ := hb_3
        refine RL.nil (RC.back ?_)
        refine RC.seq ?_
        refine RC.region rfl ?_
        refine RL.ev (.loadR (tyC bN nn cN ((at_ + l.length + 1 : Nat) : Int) (((at_ + l.length : Nat) : Int) + 1)) sh80 rfl hb_3.row rfl) rfl rfl ?_
        refine RL.store sh80 rfl rfl rfl hb_6 (by exact Nat.le_of_ble_eq_true rfl) (by rfl) rfl (fun w19 z19 hb_6 a19 => ?_)
        have G := agNew G a19 geG_6
        have hbN := hbN.upd a19 nN__6
        have o := o.updD a19 dd6
        have hb_3 := hb_3.upd a19 n_3__6
        have hb_7 := hb_7.upd a19 n_6__7.symm
        have szB := Nat.le_trans szB a19.size
        have hb_6 : Has w19 b_6 (tyC bN nn cN ((at_ + l.length + 1 : Nat) : Int) (((at_ + l.length : Nat) : Int) + 1)) _ := hb_6.now (by kernel_rfl)
        refine RL.nil (RC.back ?_)
        refine RC.done (rs := [.cell 6 80]) (vs := [_]) rfl rfl ⟨⟨_, rfl, .inr ⟨tyC bN nn cN ((at_ + l.length + 1 : Nat) : Int) (((at_ + l.length : Nat) : Int) + 1), sh80, hb_6.row, rfl⟩⟩, trivial⟩ ?_
        -- end 1
        exact ⟨_, ((at_ + l.length : Nat) : Int) + 1, (by rw [hck, show at_ + (1 + l.length) = at_ + l.length + 1 by omega]; rfl), ly_clash hmp hms hl9 hF rfl (by omega) (by omega) hl2, G, hbN⟩
/-- no hash has too many keys -/
def FitH : Nat → List It → Prop
  | 0, l => l.length ≤ 9
  | k + 1, l => ∀ i, i < 4 → FitH k (ofL (9 - k) i l)
theorem hash_full (key : Int) : hashOf key % 4 ^ 10 = hashOf key := Nat.mod_eq_of_lt (by unfold hashOf; exact Nat.mod_lt _ (by decide))
theorem fit_of : ∀ {k d : Nat} {l : List It}, k ≤ 10 → Fam (10 - k) d l → (∀ x ∈ l, shL x.k l ≤ 9) → FitH k l
  | 0, d, l, _, hf, h => by
    rcases l with _ | ⟨x, l⟩
    · exact Nat.zero_le _
    · have h1 := h x (by simp)
      have e : shL x.k (x :: l) = (x :: l).length := by
        unfold shL
        rw [List.filter_eq_self.2]
        intro y hy
        have e1 := hf y hy
        have e2 := hf x (by simp)
        rw [hash_full] at e1 e2
        simp [e1, e2]
      rw [e] at h1
      exact h1
  | k + 1, d, l, hk, hf, h => fun i hi => by
    have h1 : 10 - (k + 1) = 9 - k := by omega
    rw [h1] at hf
    have h2 := hf.of (i := i)
    rw [show 9 - k + 1 = 10 - k by omega] at h2
    refine fit_of (by omega) h2 fun x hx => Nat.le_trans ?_ (h x (ofL_mem.1 hx).1)
    unfold shL
    exact (List.Sublist.filter _ List.filter_sublist).length_le
theorem sumT_succ (k : Nat) (l : List It) (i : Nat) : ((partsT k l (i + 1)).map (cnt k)).sum = ((partsT k l i).map (cnt k)).sum + cnt k (ofL (9 - k) i l) := by
  rw [partsT_succ, List.map_append]; exact sum_snoc _ _
/-- the rounds over digits -/
structure LtS (w0 : World) (bN cN nn b3 b6 b7 : Nat) (ns : List Node) (at_ k : Nat) (l : List It) (M : Nat → Prop) (a : Option Addr) (i : Nat) (n1 : List Node) (ks : List Int) (r : Int) (w : World) : Prop where
  hi : i ≤ 4
  F : LyF ns at_ k (partsT k l i) n1 ks
  h3 : Has w b3 (tyC bN nn cN ((at_ + ((partsT k l i).map (cnt k)).sum : Nat) : Int) r) 80
  h6 : Has w b6 [.slice none 0 0, .slice none 0 0, .int .i64 0, .int .u64 0] 80
  h7 : Has w b7 (hN 2 0 0 0 l.length ks).cells 97
  hN : Has w bN (nodeL n1) 97
  hI : Ft M (fun u => Sl u a 2 (l.map It.cells)) w
  G : Agr (· = bN) w0 w
set_option maxHeartbeats 1000000 in
theorem c_layT (bN cN nn k lv : Nat) (hk : k ≤ 9) (hlv : lv = 9 - k) (hn6 : nn ≤ 1000000)
    (ih : ∀ (ns : List Node) (at_ : Nat) (r0 : Int) (l : List It) (M : Nat → Prop) (a : Option Addr) (c m : Nat) (w : World), Ap l → FitH k l → m = l.length → l.length ≤ 1000000 → at_ + cnt k l ≤ ns.length → ns.length = nn → Ft M (fun u => Sl u a 2 (l.map It.cells)) w → (∀ k, M k → k ≠ bN) → Has w bN (nodeL ns) 97 → FC Try.prog 45 [.agg (tyC bN nn cN at_ r0).toArray, .slice a m c, .int .i64 ((lv + 1 : Nat) : Int)] w (LayA bN nn cN ns at_ k l w))
    (ns : List Node) (at_ : Nat) (r0 : Int) (l : List It) (hap : Ap l) (hfit : FitH (k + 1) l) (M : Nat → Prop) (a : Option Addr) (c m : Nat) (w : World) (hm : m = l.length) (hl2 : 2 ≤ l.length) (hl6 : l.length ≤ 1000000) (hat : at_ + cnt (k + 1) l ≤ ns.length) (hnn : ns.length = nn) (hI : Ft M (fun u => Sl u a 2 (l.map It.cells)) w) (dN : ∀ k, M k → k ≠ bN) (hbN : Has w bN (nodeL ns) 97) :
    FC Try.prog 45 [.agg (tyC bN nn cN at_ r0).toArray, .slice a m c, .int .i64 (lv : Int)] w (LayA bN nn cN ns at_ (k + 1) l w) := by
  subst hm
  have hck := partsT_sum (k := k) hl2
  have hple := fun i hi => partsT_le (k := k) (l := l) i hi
  refine FC.intro Try.func45 rfl Try.ntmps45 rfl ?_
  have G : Agr (· = bN) w w := Agr.refl _ _
  refine RC.seq ?_
  refine RC.region rfl ?_
  refine RL.box rfl rfl rfl (fun b_3 w_3 e_3 z_3 hb_3 s_3 => ?_)
  have nN__3 := hbN.ne e_3
  have d_hI_b_3 := hI.neNew e_3
  have geG_3 := agLe G e_3
  have G := G.trans s_3.agr
  have hbN := hbN.sub s_3
  have hI := hI.sub s_3
  have hb_3 : Has w_3 b_3 (tyC bN nn cN at_ r0) _ := hb_3
  refine RL.alloc ze80 rfl rfl (fun b_6 w_6 e_6 z_6 hb_6 s_6 => ?_)
  have nN__6 := hbN.ne e_6
  have n_3__6 := hb_3.ne e_6
  have d_hI_b_6 := hI.neNew e_6
  have geG_6 := agLe G e_6
  have G := G.trans s_6.agr
  have hbN := hbN.sub s_6
  have hI := hI.sub s_6
  have hb_3 := hb_3.sub s_6
  refine RL.nil (RC.back ?_)
  refine RC.seq ?_
  refine RC.region rfl ?_
  refine RL.ev (.field0 fo80_2 rfl) rfl rfl ?_
  refine RL.store sh36 rfl rfl rfl hb_3 (by exact Nat.le_of_ble_eq_true rfl) (by rfl) rfl (fun w1 z1 hb_3 a1 => ?_)
  have G := agNew G a1 geG_3
  have hbN := hbN.upd a1 nN__3
  have hI := hI.updD a1 d_hI_b_3
  have hb_6 := hb_6.upd a1 n_3__6.symm
  have hb_3 : Has w1 b_3 (tyC bN nn cN at_ 0) _ := hb_3
  refine RL.nil (RC.back ?_)
  refine RC.seq ?_
  refine RC.seq ?_
  refine RC.region rfl ?_
  refine RL.ev (.move rfl) rfl rfl ?_
  refine RL.ev (.len sl26 rfl) rfl rfl ?_
  refine RL.ev (.bin rfl rfl rfl) rfl rfl ?_
  refine RL.nil (RC.back ?_)
  refine RC.cond_dec rfl (fun h2 => ?_) (fun h2 => ?_)
  ·
    exact absurd (show l.length = 0 by have := h2; omega) (by omega)
  ·
    refine RC.skip (RC.back ?_)
    refine RC.seq ?_
    refine RC.seq ?_
    refine RC.region rfl ?_
    refine RL.ev (.move rfl) rfl rfl ?_
    refine RL.ev (.len sl26 rfl) rfl rfl ?_
    refine RL.ev (.bin rfl rfl rfl) rfl rfl ?_
    refine RL.nil (RC.back ?_)
    refine RC.cond_dec rfl (fun h3 => ?_) (fun h3 => ?_)
    ·
      exact absurd (show l.length = 1 by have := h3; omega) (by omega)
    ·
      refine RC.skip (RC.back ?_)
      refine RC.seq ?_
      refine RC.region rfl ?_
      refine RL.ev (.move rfl) rfl rfl ?_
      refine RL.ev (.len sl26 rfl) rfl rfl ?_
      refine RL.ev (.as (v' := .agg (hN 2 0 0 0 l.length []).cells.toArray) (.buildS ze97 pl97 rfl rfl) (by rfl)) rfl rfl ?_
      refine RL.alloc ze97 rfl rfl (fun b_7 w_7 e_7 z_7 hb_7 s_7 => ?_)
      have nN__7 := hbN.ne e_7
      have n_3__7 := hb_3.ne e_7
      have n_6__7 := hb_6.ne e_7
      have d_hI_b_7 := hI.neNew e_7
      have geG_7 := agLe G e_7
      have G := G.trans s_7.agr
      have hbN := hbN.sub s_7
      have hI := hI.sub s_7
      have hb_3 := hb_3.sub s_7
      have hb_6 := hb_6.sub s_7
      refine RL.store sh97 rfl rfl rfl hb_7 (by exact Nat.le_of_ble_eq_true rfl) (by rfl) rfl (fun w4 z4 hb_7 a4 => ?_)
      have G := agNew G a4 geG_7
      have hbN := hbN.upd a4 nN__7
      have hI := hI.updD a4 d_hI_b_7
      have hb_3 := hb_3.upd a4 n_3__7
      have hb_6 := hb_6.upd a4 n_6__7
      refine RL.nil (RC.back ?_)
      refine RC.seq ?_
      refine RC.seq ?_
      refine RC.region rfl ?_
      refine RL.ev (.move rfl) rfl rfl ?_
      refine RL.ev (.as (v' := .bool false) (.bin rfl rfl rfl) (congrArg Value.bool (decide_eq_false (by omega)))) rfl rfl ?_
      refine RL.nil (RC.back ?_)
      refine RC.cond_f rfl ?_
      refine RC.seq ?_
      refine RC.region rfl ?_
      refine RL.ev (.assign rfl) rfl rfl ?_
      refine RL.nil (RC.back ?_)
      refine RC.block ?_
      refine RC.loop (α := Nat × List Node × List Int × Int) (fun x => [(1, .slice a l.length c), (2, .int .i64 (lv : Int)), (3, .pointer (some ⟨b_3, 0, none⟩)), (6, .pointer (some ⟨b_6, 0, none⟩)), (7, .pointer (some ⟨b_7, 0, none⟩)), (12, .int .i64 (x.1 : Int))]) (fun x w5 => LtS w bN cN nn b_3 b_6 b_7 ns at_ k l M a x.1 x.2.1 x.2.2.1 x.2.2.2 w5) (fun x => 4 - x.1) (0, ns, [], 0) (keep_of (by repeat (first | exact trivial | refine And.intro rfl ?_))) (⟨Nat.zero_le _, LyF.nil _ _ _, hb_3, hb_6, hb_7, hbN, hI, G⟩) (fun x w5 hJ => ?_)
      obtain ⟨i, n1, ks, rr⟩ := x; obtain ⟨hi, hF, hb_3, hb_6, hb_7, hbN, hI, G⟩ := hJ; simp only [] at hi hF hb_3 hb_7 hbN; have hks := hF.kl; rw [partsT_len] at hks; have hnl1 := hF.len
      refine RC.seq ?_
      refine RC.seq ?_
      refine RC.region rfl ?_
      refine RL.ev (.move rfl) rfl rfl ?_
      refine RL.ev (.bin rfl rfl rfl) rfl rfl ?_
      refine RL.nil (RC.back ?_)
      refine RC.cond_dec rfl (fun h6 => ?_) (fun h6 => ?_)
      ·
        have h89 := h6
        simp only [] at h89
        have hi4 : i < 4 := (by omega)
        have hpl := hple i hi4
        refine RC.skip (RC.back ?_)
        refine RC.seq ?_
        refine RC.block ?_
        refine RC.seq ?_
        refine RC.drawD (fun k => k = b_3 ∨ k = bN) [7, 8] w5.heap.size 9 rfl rfl mxo (fun w7 s8 => ?_)
        have ltD_bN := hbN.lt
        have ltD_hI := fun k hk => (hI.ge k hk).2
        have ltD_b_3 := hb_3.lt
        have ltD_b_6 := hb_6.lt
        have ltD_b_7 := hb_7.lt
        have szD := Nat.le_refl w5.heap.size
        have G := G.trans s8.agr
        have hbN := hbN.sub s8
        have hI := hI.sub s8
        have hb_3 := hb_3.sub s8
        have hb_6 := hb_6.sub s8
        have hb_7 := hb_7.sub s8
        have szD := Nat.le_trans szD s8.size
        refine RD.takeL 0 rfl (by kernel_rfl) (by kernel_rfl) (by kernel_rfl) (by kernel_rfl) (fun w' s' => .loadR (tyC bN nn cN ((at_ + ((partsT k l i).map (cnt k)).sum : Nat) : Int) rr) sh80 rfl (hb_3.step s' (fun e => Nat.not_le.2 ltD_b_3 e)).row rfl) rfl rfl ?_
        refine RD.take 1 rfl (by kernel_rfl) (by kernel_rfl) (by kernel_rfl) (fun w' s' => .move rfl) rfl rfl ?_
        refine RD.take 2 rfl (by kernel_rfl) (by kernel_rfl) (by kernel_rfl) (fun w' s' => .move rfl) rfl rfl ?_
        refine RD.take 3 rfl (by kernel_rfl) (by kernel_rfl) (by kernel_rfl) (fun w' s' => .move rfl) rfl rfl ?_
        have ltw := hbN.lt
        refine RD.take 5 rfl (by kernel_rfl) (by kernel_rfl) (by kernel_rfl) (fun w' s' => .move rfl) rfl rfl ?_
        refine RD.take 6 rfl (by kernel_rfl) (by kernel_rfl) (by kernel_rfl) (fun w' s' => .as (.bin rfl rfl rfl) (wi64 (y := ((lv + 1 : Nat) : Int)) (by omega) (by omega))) rfl rfl ?_
        refine RD.all [4] (by kernel_rfl) rfl (RDs.cons rfl ?_ (RDs.nil))
        refine RL.call rfl ok62 (c_refOf9 l a c l.length rfl lv i (by omega) w7 hI.now hl6) rfl rfl ?_
        rintro _ w9 ⟨a1, c1, rfl, o1, s10⟩
        have G := G.trans s10.agr
        have hbN := hbN.sub s10
        have hI := hI.sub s10
        have hb_3 := hb_3.sub s10
        have hb_6 := hb_6.sub s10
        have hb_7 := hb_7.sub s10
        have szD := Nat.le_trans szD s10.size
        refine RD.back s10.agr ?_
        refine RD.all [7] (by kernel_rfl) rfl (RDs.cons rfl ?_ (RDs.nil))
        refine RL.call rfl ok45 (ih n1 (at_ + ((partsT k l i).map (cnt k)).sum) rr (ofL lv i l) _ a1 c1 _ w9 (hap.of _ _) (by rw [hlv]; exact hfit i hi4) (List.length_map _) (Nat.le_trans (ofL_len _ _ _) hl6) (by rw [hlv]; omega) (hnl1.trans hnn) (o1.ft.imp fun u h => h.sl.1) (owNw o1 ltw) hbN) rfl rfl ?_
        rintro vL w11 ⟨n2, r2, hv, hLy, ag1, hN1⟩
        have G := G.trans ag1
        have hI := hI.updD ag1 dN
        have hb_3 := hb_3.upd ag1 nN__3.symm
        have hb_6 := hb_6.upd ag1 nN__6.symm
        have hb_7 := hb_7.upd ag1 nN__7.symm
        have szD := Nat.le_trans szD ag1.size
        rw [hlv] at hv hLy
        rw [Nat.add_assoc, ← sumT_succ] at hv
        subst hv
        have hbN := hN1
        have hF2 := hF.step rfl hLy
        rw [← partsT_succ] at hF2
        refine RD.backW rfl (ag1.mono fun k _ e => .inl (.inr e)) ?_
        refine RD.all [8] (by kernel_rfl) rfl (RDs.cons rfl ?_ (RDs.nil))
        refine RL.store sh80 rfl rfl rfl hb_3 (by exact Nat.le_of_ble_eq_true rfl) (by rfl) rfl (fun w13 z13 hb_3 a13 => ?_)
        have G := agNew G a13 geG_3
        have hbN := hbN.upd a13 nN__3
        have hI := hI.updD a13 d_hI_b_3
        have hb_6 := hb_6.upd a13 n_3__6.symm
        have hb_7 := hb_7.upd a13 n_3__7.symm
        have szD := Nat.le_trans szD a13.size
        have hb_3 : Has w13 b_3 (tyC bN nn cN ((at_ + ((partsT k l (i + 1)).map (cnt k)).sum : Nat) : Int) r2) _ := hb_3.now (by kernel_rfl)
        refine RD.backW rfl (a13.mono fun k _ e => e ▸ (.inl (.inl rfl))) ?_
        refine RD.done (by kernel_rfl) (RC.back ?_)
        refine RC.region rfl ?_
        refine RL.ev (.move rfl) rfl rfl ?_
        refine RL.ev (.field0 fo80_2 rfl) rfl rfl ?_
        refine RL.ev (.load1 sh36 rfl (hb_3.cell rfl)) rfl rfl ?_
        refine RL.ev (.field0 fo97_5 rfl) rfl rfl ?_
        refine RL.ev (.indexArr ar95 rfl rfl (by omega)) rfl rfl ?_
        refine RL.store sh36 rfl rfl rfl hb_7 (by show 5 + i * 1 + 1 ≤ 16; omega) (by rfl) rfl (fun w14 z14 hb_7 a14 => ?_)
        have G := agNew G a14 geG_7
        have hbN := hbN.upd a14 nN__7
        have hI := hI.updD a14 d_hI_b_7
        have hb_3 := hb_3.upd a14 n_3__7
        have hb_6 := hb_6.upd a14 n_6__7
        have hb_7 : Has w14 b_7 (hN 2 0 0 0 l.length (ks ++ [r2])).cells 97 := (by rw [← kids_put 2 0 l.length ks r2 hks.symm (by omega)]; exact hb_7)
        refine RL.nil (RC.back ?_)
        refine RC.region rfl ?_
        refine RL.ev (.move rfl) rfl rfl ?_
        refine RL.ev (.as (.bin rfl rfl rfl) (wi64 (y := ((i + 1 : Nat) : Int)) (by simp only []; omega) (by omega))) rfl rfl ?_
        refine RL.ev (.assign rfl) rfl rfl ?_
        exact RL.nil (fun a ka => ⟨(i + 1, n2, ks ++ [r2], r2), ⟨by simp only []; omega, hF2, hb_3, hb_6, hb_7, hbN, hI, G⟩, by simp only []; omega, ka.keep (keep_of (by repeat (first | exact trivial | refine And.intro rfl ?_)))⟩)
      ·
        have h89 := h6
        simp only [] at h89
        obtain rfl : i = 4 := (by omega)
        refine RC.exit rfl (RC.back ?_)
        refine RC.seq ?_
        refine RC.region rfl ?_
        refine RL.ev (.field0 fo80_0 rfl) rfl rfl ?_
        refine RL.ev (.field0 fo34_0 rfl) rfl rfl ?_
        refine RL.ev (.load1 sh31 rfl (hb_3.cell rfl)) rfl rfl ?_
        refine RL.ev (.field0 fo80_1 rfl) rfl rfl ?_
        refine RL.ev (.load1 sh3 rfl (hb_3.cell rfl)) rfl rfl ?_
        refine RL.ev (.loadR ((hN 2 0 0 0 l.length ks).cells) sh97 rfl hb_7.row rfl) rfl rfl ?_
        refine RL.ev (.indexO sl31 rfl rfl (by omega)) rfl rfl ?_
        refine RL.store sh97 rfl rfl rfl hbN (by rw [flat_len (sz := 16) _ (node_rows _), List.length_map]; show 0 + (at_ + ((partsT k l 4).map (cnt k)).sum) * 16 + 16 ≤ _; omega) (by rfl) rfl (fun w15 z15 hbN a15 => ?_)
        have G := G.trans a15
        have hI := hI.updD a15 dN
        have hb_3 := hb_3.upd a15 nN__3.symm
        have hb_6 := hb_6.upd a15 nN__6.symm
        have hb_7 := hb_7.upd a15 nN__7.symm
        have hbN : Has w15 bN (nodeL (n1.set (at_ + ((partsT k l 4).map (cnt k)).sum) (hN 2 0 0 0 l.length ks))) 97 := by rw [nodeL, List.map_set]; exact row_set0 (sz := 16) (i := at_ + ((partsT k l 4).map (cnt k)).sum) (by rw [Nat.zero_add] at hbN; exact hbN) (node_rows _) (by rw [List.length_map]; omega) rfl
        refine RL.nil (RC.back ?_)
        refine RC.seq ?_
        refine RC.region rfl ?_
        refine RL.ev (.field0 fo80_1 rfl) rfl rfl ?_
        refine RL.ev (.load1 sh3 rfl (hb_3.cell rfl)) rfl rfl ?_
        refine RL.ev (.as (.bin rfl rfl rfl) (wi64 (y := ((at_ + ((partsT k l 4).map (cnt k)).sum + 1 : Nat) : Int)) (by omega) (by omega))) rfl rfl ?_
        refine RL.ev (.field0 fo80_1 rfl) rfl rfl ?_
        refine RL.store sh3 rfl rfl rfl hb_3 (by exact Nat.le_of_ble_eq_true rfl) (by rfl) rfl (fun w16 z16 hb_3 a16 => ?_)
        have G := agNew G a16 geG_3
        have hbN := hbN.upd a16 nN__3
        have hI := hI.updD a16 d_hI_b_3
        have hb_6 := hb_6.upd a16 n_3__6.symm
        have hb_7 := hb_7.upd a16 n_3__7.symm
        have hb_3 : Has w16 b_3 (tyC bN nn cN ((at_ + ((partsT k l 4).map (cnt k)).sum + 1 : Nat) : Int) rr) _ := hb_3
        refine RL.nil (RC.back ?_)
        refine RC.seq ?_
        refine RC.region rfl ?_
        refine RL.ev (.field0 fo80_1 rfl) rfl rfl ?_
        refine RL.ev (.load1 sh3 rfl (hb_3.cell rfl)) rfl rfl ?_
        refine RL.ev (.as (.conv i3 i36 rfl) (wu64 (y := ((at_ + ((partsT k l 4).map (cnt k)).sum : Nat) : Int) + 1) (by omega) (by omega))) rfl rfl ?_
        refine RL.ev (.field0 fo80_2 rfl) rfl rfl ?_
        refine RL.store sh36 rfl rfl rfl hb_3 (by exact Nat.le_of_ble_eq_true rfl) (by rfl) rfl (fun w17 z17 hb_3 a17 => ?_)
        have G := agNew G a17 geG_3
        have hbN := hbN.upd a17 nN__3
        have hI := hI.updD a17 d_hI_b_3
        have hb_6 := hb_6.upd a17 n_3__6.symm
        have hb_7 := hb_7.upd a17 n_3__7.symm
        have hb_3 : Has w17 b_3 (tyC bN nn cN ((at_ + ((partsT k l 4).map (cnt k)).sum + 1 : Nat) : Int) (((at_ + ((partsT k l 4).map (cnt k)).sum : Nat) : Int) + 1)) _ := hb_3
        refine RL.nil (RC.back ?_)
        refine RC.seq ?_
        refine RC.region rfl ?_
        refine RL.ev (.loadR (tyC bN nn cN ((at_ + ((partsT k l 4).map (cnt k)).sum + 1 : Nat) : Int) (((at_ + ((partsT k l 4).map (cnt k)).sum : Nat) : Int) + 1)) sh80 rfl hb_3.row rfl) rfl rfl ?_
        refine RL.store sh80 rfl rfl rfl hb_6 (by exact Nat.le_of_ble_eq_true rfl) (by rfl) rfl (fun w18 z18 hb_6 a18 => ?_)
        have G := agNew G a18 geG_6
        have hbN := hbN.upd a18 nN__6
        have hI := hI.updD a18 d_hI_b_6
        have hb_3 := hb_3.upd a18 n_3__6
        have hb_7 := hb_7.upd a18 n_6__7.symm
        have hb_6 : Has w18 b_6 (tyC bN nn cN ((at_ + ((partsT k l 4).map (cnt k)).sum + 1 : Nat) : Int) (((at_ + ((partsT k l 4).map (cnt k)).sum : Nat) : Int) + 1)) _ := hb_6.now (by kernel_rfl)
        refine RL.nil (RC.back ?_)
        refine RC.done (rs := [.cell 6 80]) (vs := [_]) rfl rfl ⟨⟨_, rfl, .inr ⟨tyC bN nn cN ((at_ + ((partsT k l 4).map (cnt k)).sum + 1 : Nat) : Int) (((at_ + ((partsT k l 4).map (cnt k)).sum : Nat) : Int) + 1), sh80, hb_6.row, rfl⟩⟩, trivial⟩ ?_
        -- end 1
        exact ⟨_, ((at_ + ((partsT k l 4).map (cnt k)).sum : Nat) : Int) + 1, (by rw [hck]; rfl), ly_trie hF rfl (by omega) (by omega) hl6 hl2, G, hbN⟩
theorem c_layH (bN cN nn : Nat) (hn6 : nn ≤ 1000000) : ∀ (k lv : Nat), k ≤ 10 → lv = 10 - k → ∀ (ns : List Node) (at_ : Nat) (r0 : Int) (l : List It) (M : Nat → Prop) (a : Option Addr) (c m : Nat) (w : World), Ap l → FitH k l → m = l.length → l.length ≤ 1000000 → at_ + cnt k l ≤ ns.length → ns.length = nn → Ft M (fun u => Sl u a 2 (l.map It.cells)) w → (∀ k, M k → k ≠ bN) → Has w bN (nodeL ns) 97 →
    FC Try.prog 45 [.agg (tyC bN nn cN at_ r0).toArray, .slice a m c, .int .i64 (lv : Int)] w (LayA bN nn cN ns at_ k l w)
  | k, lv, hk, hlv, ns, at_, r0, l, M, a, c, m, w, hap, hfit, hm, hl6, hat, hnn, hI, dN, hbN => by
    by_cases h1 : l.length ≤ 1
    · exact c_layFew bN cN nn k lv ns at_ r0 l M a c m w hm h1 (by rw [cnt_few h1] at hat; exact hat) hnn hn6 hI dN hbN
    · cases k with
      | zero =>
        obtain rfl : lv = 10 := by omega
        exact c_layC bN cN nn ns at_ r0 l hap M a c m w hm (by omega) hfit hat hnn hn6 hI dN hbN
      | succ k => exact c_layT bN cN nn k lv (by omega) (by omega) hn6 (c_layH bN cN nn hn6 k (lv + 1) (by omega) (by omega)) ns at_ r0 l hap hfit M a c m w hm (by omega) hl6 hat hnn hI dN hbN
end Go.Proofs.Ytbfjobmebkhblaa
set_option linter.unusedVariables false
set_option linter.unusedSimpArgs false
namespace Go.Proofs.Ytbfjobmebkhblaa
open Go Go.XL
theorem fit_10 {l : List It} (h : ∀ x ∈ l, shL x.k l ≤ 9) : FitH 10 l := fit_of (Nat.le_refl _) (fam_0 l) h
set_option maxHeartbeats 1000000 in
theorem c_build9 (size : Nat) (l : List It) (a : Option Addr) (c m : Nat) (hm : m = l.length) (hap : Ap l) (hfit : ∀ x ∈ l, shL x.k l ≤ 9) (hok : ∀ z ∈ l, z.ok) (h : cnt 10 l ≤ size) (h1 : 1 ≤ size) (h2 : size ≤ 1000000) (hl6 : l.length ≤ 1000000) (w : World) (hl : Sl w a 2 (l.map It.cells)) :
    FC Try.prog 18 [.int .i64 (size : Int), .slice a m c] w (fun v w' => ∃ B r na fa nc fc, v = .tuple #[arV na fa nc fc B, .int .u64 r] ∧ BldH size l B r ∧ B.nodes.length ≤ nc ∧ B.free.length ≤ fc ∧ (∀ N : Nat → Prop, (∀ k, N k → k < w.heap.size) → Imm N (fun u => ArR u na fa B) w') ∧ Sub w w') := by
  subst hm
  refine FC.intro Try.func18 rfl Try.ntmps18 rfl ?_
  have S := Sub.refl w
  refine RC.seq ?_
  refine RC.region rfl ?_
  refine RL.alloc ze34 rfl rfl (fun b_4 w_4 e_4 z_4 hb_4 s_4 => ?_)
  have ge_4 := S.le e_4
  have S := S.trans s_4
  refine RL.ev (.assign rfl) rfl rfl ?_
  refine RL.nil (RC.back ?_)
  refine RC.seq ?_
  refine RC.region rfl ?_
  refine RL.ev (.move rfl) rfl rfl ?_
  refine RL.makeSlice sl31 ze97 rfl rfl rfl rfl (by omega) rfl rfl (fun b_10 w_10 e_10 z_10 hb_10 s_10 => ?_)
  have ge_10 := S.le e_10
  have n_4__10 := hb_4.ne e_10
  have S := S.trans s_10
  have hb_4 := hb_4.sub s_10
  have hb_10 : Has w_10 b_10 (nodeL (List.replicate size (bareN 0))) 97 := by have := hb_10; rw [Int.toNat_natCast] at this; rw [nodeL, List.map_replicate]; exact this
  refine RL.ev (.buildS ze34 pl34 rfl rfl) rfl rfl ?_
  refine RL.alloc ze34 rfl rfl (fun b_6 w_6 e_6 z_6 hb_6 s_6 => ?_)
  have ge_6 := S.le e_6
  have n_4__6 := hb_4.ne e_6
  have n_10__6 := hb_10.ne e_6
  have S := S.trans s_6
  have hb_4 := hb_4.sub s_6
  have hb_10 := hb_10.sub s_6
  refine RL.store sh34 rfl rfl rfl hb_6 (by exact Nat.le_of_ble_eq_true rfl) (by rfl) rfl (fun w1 z1 hb_6 a1 => ?_)
  have S := S.upd a1 ge_6
  have hb_4 := hb_4.upd a1 n_4__6
  have hb_10 := hb_10.upd a1 n_10__6
  have hb_6 : Has w1 b_6 ([.slice (some ⟨b_10, 0, none⟩) size size, .slice none 0 0]) _ := hb_6.now (by kernel_rfl)
  refine RL.nil (RC.back ?_)
  refine RC.seq ?_
  refine RC.region rfl ?_
  refine RL.ev (.loadR ([.slice (some ⟨b_10, 0, none⟩) size size, .slice none 0 0]) sh34 rfl hb_6.row rfl) rfl rfl ?_
  refine RL.ev (.as (v' := .agg (tyC b_10 size size (0 : Nat) 0).toArray) (.buildS ze80 pl80 rfl rfl) (by rfl)) rfl rfl ?_
  refine RL.ev (.move rfl) rfl rfl ?_
  refine RL.call rfl ok45 (c_layH b_10 size size h2 10 0 (Nat.le_refl _) rfl (List.replicate size (bareN 0)) 0 0 l _ a c l.length w1 hap (fit_10 hfit) rfl hl6 (by rw [List.length_replicate]; omega) List.length_replicate ((Ft.of_sub (fun u s => hl.sub s)).sub S) (fun k hk e => by omega) hb_10) rfl rfl ?_
  rintro vL w2 ⟨ns, r, hv, hLy, ag1, hN1⟩
  have S := S.upd ag1 ge_10
  have hb_4 := hb_4.upd ag1 n_4__10
  have hb_6 := hb_6.upd ag1 n_10__6.symm
  rw [Nat.zero_add] at hv
  subst hv
  have hb_10 := hN1
  have hB := bld_ok h h2 hLy
  refine RL.alloc ze80 rfl rfl (fun b_7 w_7 e_7 z_7 hb_7 s_7 => ?_)
  have ge_7 := S.le e_7
  have n_4__7 := hb_4.ne e_7
  have n_10__7 := hb_10.ne e_7
  have n_6__7 := hb_6.ne e_7
  have S := S.trans s_7
  have hb_4 := hb_4.sub s_7
  have hb_10 := hb_10.sub s_7
  have hb_6 := hb_6.sub s_7
  refine RL.store sh80 rfl rfl rfl hb_7 (by exact Nat.le_of_ble_eq_true rfl) (by rfl) rfl (fun w4 z4 hb_7 a4 => ?_)
  have S := S.upd a4 ge_7
  have hb_4 := hb_4.upd a4 n_4__7
  have hb_10 := hb_10.upd a4 n_10__7
  have hb_6 := hb_6.upd a4 n_6__7
  have hb_7 : Has w4 b_7 (tyC b_10 size size (cnt 10 l : Nat) r) _ := hb_7.now (by kernel_rfl)
  refine RL.nil (RC.back ?_)
  refine RC.seq ?_
  refine RC.seq ?_
  refine RC.region rfl ?_
  refine RL.ev (.move rfl) rfl rfl ?_
  refine RL.ev (.as (.bin rfl rfl rfl) (wi64 (y := (size : Int) - 1 - ((0 : Nat) : Int)) (by omega) (by omega))) rfl rfl ?_
  refine RL.ev (.assign rfl) rfl rfl ?_
  obtain ⟨E, hE⟩ : ∃ E, E = w4.heap.size := ⟨_, rfl⟩
  have lt4 := hb_4.lt
  have lt7 := hb_7.lt
  have lt10 := hb_10.lt
  have szS := S.size
  rw [← hE] at lt4 lt7 lt10 szS
  refine RL.nil (RC.back ?_)
  refine RC.block ?_
  refine RC.loop (α := Nat × Option Addr × Nat × Nat) (fun x => [(1, .slice a l.length c), (4, .pointer (some ⟨b_4, 0, none⟩)), (5, .int .u64 0), (7, .pointer (some ⟨b_7, 0, none⟩)), (8, .int .i64 ((size : Int) - 1 - (x.1 : Int)))]) (fun x w5 => x.1 ≤ size - cnt 10 l ∧ Ows E w5 3 1 (.slice x.2.1 x.2.2.1 x.2.2.2) ((freeB size x.1).map fun x => [i6 x]) ∧ Has w5 b_4 [.slice none 0 0, .slice none 0 0] 34 ∧ Has w5 b_7 [.slice (some ⟨b_10, 0, none⟩) size size, .slice x.2.1 x.2.2.1 x.2.2.2, .int .i64 (cnt 10 l : Nat), .int .u64 r] 80 ∧ Has w5 b_10 (nodeL ns) 97 ∧ E ≤ w5.heap.size ∧ Sub w w5) (fun x => size - cnt 10 l - x.1) (0, none, 0, 0) (keep_of (by repeat (first | exact trivial | refine And.intro rfl ?_))) (⟨Nat.zero_le _, Ows.nil _ _ _ _, hb_4, hb_7, hb_10, by omega, S⟩) (fun x w5 hJ => ?_)
  obtain ⟨i, a_u, m_u, c_u⟩ := x; obtain ⟨hi, o, hb_4, hb_7, hb_10, szB, S⟩ := hJ; simp only [] at hi o hb_7; obtain rfl := o.sl.2; have hfl := freeB_len size i
  refine RC.seq ?_
  refine RC.seq ?_
  refine RC.region rfl ?_
  refine RL.ev (.move rfl) rfl rfl ?_
  refine RL.ev (.field0 fo80_1 rfl) rfl rfl ?_
  refine RL.ev (.load1 sh3 rfl (hb_7.cell rfl)) rfl rfl ?_
  refine RL.ev (.bin rfl rfl rfl) rfl rfl ?_
  refine RL.nil (RC.back ?_)
  refine RC.cond_dec rfl (fun h6 => ?_) (fun h6 => ?_)
  ·
    have d4 : ∀ k, ob (.slice a_u ((freeB size i).map fun x => [i6 x]).length c_u) = some k → k ≠ b_4 := fun k hk e => absurd (o.ge k hk).1 (by omega)
    have d7 : ∀ k, ob (.slice a_u ((freeB size i).map fun x => [i6 x]).length c_u) = some k → k ≠ b_7 := fun k hk e => absurd (o.ge k hk).1 (by omega)
    have d10 : ∀ k, ob (.slice a_u ((freeB size i).map fun x => [i6 x]).length c_u) = some k → k ≠ b_10 := fun k hk e => absurd (o.ge k hk).1 (by omega)
    refine RC.skip (RC.back ?_)
    refine RC.seq ?_
    refine RC.block ?_
    refine RC.region rfl ?_
    refine RL.ev (.field0 fo80_0 rfl) rfl rfl ?_
    refine RL.ev (.field0 fo34_1 rfl) rfl rfl ?_
    refine RL.ev (.load1 sh32 rfl (hb_7.cell rfl)) rfl rfl ?_
    refine RL.ev (.move rfl) rfl rfl ?_
    refine RL.buildSlice1 sl32 _ ze3 rfl rfl rfl rfl rfl rfl rfl (fun b_28 w_28 e_28 z_28 hb_28 s_28 => ?_)
    have ge_28 := S.le e_28
    have n_4__28 := hb_4.ne e_28
    have n_7__28 := hb_7.ne e_28
    have n_10__28 := hb_10.ne e_28
    have d_o_b_28 := o.neNew e_28
    have S := S.trans s_28
    have hb_4 := hb_4.sub s_28
    have hb_7 := hb_7.sub s_28
    have hb_10 := hb_10.sub s_28
    have szB := Nat.le_trans szB s_28.size
    have o := o.sub s_28
    have sz_29 := S.size
    have ltb_4_29 := hb_4.lt
    have ltb_7_29 := hb_7.lt
    have ltb_10_29 := hb_10.lt
    have ltb_28_29 := hb_28.lt
    refine RL.append2 (base := E) (rows := (freeB size i).map fun x => [i6 x]) (news := [_]) sl32 ze3 rfl rfl rfl rfl (.inl o) (Has.slOne hb_28) rfl (by intro r hr; rw [List.mem_singleton] at hr; subst hr; rfl) rfl (by (try simp only [List.length_map, List.length_nil, List.length_append, List.length_cons]); omega) (by (try simp only [List.length_map, List.length_nil, List.length_append, List.length_cons]); omega) (by omega) rfl rfl (fun v_29 w_29 hc_29 ho_29 ag_29 ob_29 => ?_)
    have o29 := ho_29 (.inl (by simp))
    rw [show _ ++ [_] = ((freeB size i ++ [(size : Int) - 1 - (i : Int)]).map fun x => [i6 x]) from by rw [List.map_append]; rfl] at o29
    have d_o29_b_4 := obNe ob_29 d4 hb_4.lt
    have d_o29_b_7 := obNe ob_29 d7 hb_7.lt
    have d_o29_b_10 := obNe ob_29 d10 hb_10.lt
    have S := S.agrN ag_29 (fun k e => Nat.le_trans (by omega) e.2)
    have hb_4 := hb_4.step ag_29 (fun e => d4 _ e.1 rfl)
    have hb_7 := hb_7.step ag_29 (fun e => d7 _ e.1 rfl)
    have hb_10 := hb_10.step ag_29 (fun e => d10 _ e.1 rfl)
    have szB := Nat.le_trans szB ag_29.size
    obtain ⟨a_29, c_29, rfl, k_29⟩ := o29.form
    refine RL.ev (.field0 fo80_0 rfl) rfl rfl ?_
    refine RL.ev (.field0 fo34_1 rfl) rfl rfl ?_
    refine RL.store sh32 rfl rfl rfl hb_7 (by exact Nat.le_of_ble_eq_true rfl) (by rfl) rfl (fun w7 z7 hb_7 a7 => ?_)
    have S := S.upd a7 ge_7
    have hb_4 := hb_4.upd a7 n_4__7
    have hb_10 := hb_10.upd a7 n_10__7
    have szB := Nat.le_trans szB a7.size
    have o29 := o29.updD a7 d_o29_b_7
    have hb_7 : Has w7 b_7 ([.slice (some ⟨b_10, 0, none⟩) size size, .slice a_29 ((freeB size i ++ [(size : Int) - 1 - (i : Int)]).map fun x => [i6 x]).length c_29, .int .i64 (cnt 10 l : Nat), .int .u64 r]) _ := hb_7
    refine RL.nil (RC.back ?_)
    refine RC.region rfl ?_
    refine RL.ev (.move rfl) rfl rfl ?_
    refine RL.ev (.as (.bin rfl rfl rfl) (wi64 (y := (size : Int) - 1 - ((i + 1 : Nat) : Int)) (by omega) (by omega))) rfl rfl ?_
    refine RL.ev (.assign rfl) rfl rfl ?_
    exact RL.nil (fun a ka => ⟨(i + 1, a_29, _, c_29), ⟨by omega, by rw [freeB_succ]; exact o29, hb_4, hb_7, hb_10, szB, S⟩, by omega, ka.keep (keep_of (by repeat (first | exact trivial | refine And.intro rfl ?_)))⟩)
  ·
    obtain rfl : i = size - cnt 10 l := (by omega)
    have d4 : ∀ k, ob (.slice a_u ((freeB size (size - cnt 10 l)).map fun x => [i6 x]).length c_u) = some k → k ≠ b_4 := fun k hk e => absurd (o.ge k hk).1 (by omega)
    have d7 : ∀ k, ob (.slice a_u ((freeB size (size - cnt 10 l)).map fun x => [i6 x]).length c_u) = some k → k ≠ b_7 := fun k hk e => absurd (o.ge k hk).1 (by omega)
    have d10 : ∀ k, ob (.slice a_u ((freeB size (size - cnt 10 l)).map fun x => [i6 x]).length c_u) = some k → k ≠ b_10 := fun k hk e => absurd (o.ge k hk).1 (by omega)
    refine RC.exit rfl (RC.back ?_)
    refine RC.seq ?_
    refine RC.drawD (fun k => k = b_4) [4] w5.heap.size 6 rfl rfl mxo (fun w8 s9 => ?_)
    have hNN : ∀ k, ((k = b_4) ∨ w5.heap.size ≤ k) → w.heap.size ≤ k := fun k e => e.elim (fun e => e ▸ ge_4) (fun e => Nat.le_trans S.size e)
    have ent_S := S.size
    have hN0 : ∀ k, w5.heap.size ≤ k → w.heap.size ≤ k := fun k e => Nat.le_trans S.size e
    have ltD_b_4 := hb_4.lt
    have ltD_b_7 := hb_7.lt
    have ltD_b_10 := hb_10.lt
    have ltD_o := fun k hk => (o.ge k hk).2
    have szD := Nat.le_refl w5.heap.size
    have S := S.trans s9
    have hb_4 := hb_4.sub s9
    have hb_7 := hb_7.sub s9
    have hb_10 := hb_10.sub s9
    have szB := Nat.le_trans szB s9.size
    have o := o.sub s9
    have szD := Nat.le_trans szD s9.size
    refine RD.take 0 rfl (by kernel_rfl) (by kernel_rfl) (by kernel_rfl) (fun w' s' => .field0 fo80_0 rfl) rfl rfl ?_
    refine RD.take 1 rfl (by kernel_rfl) (by kernel_rfl) (by kernel_rfl) (fun w' s' => .loadR ([.slice (some ⟨b_10, 0, none⟩) size size, .slice a_u ((freeB size (size - cnt 10 l)).map fun x => [i6 x]).length c_u]) sh34 rfl (row_pref (xs := [.slice (some ⟨b_10, 0, none⟩) size size, .slice a_u ((freeB size (size - cnt 10 l)).map fun x => [i6 x]).length c_u]) (ys := [.int .i64 (cnt 10 l : Nat), .int .u64 r]) (hb_7.step s' (fun e => e.elim (fun e => n_4__7.symm e) (fun e => Nat.not_le.2 ltD_b_7 e)))) rfl) rfl rfl ?_
    refine RD.take 2 rfl (by kernel_rfl) (by kernel_rfl) (by kernel_rfl) (fun w' s' => .field0 fo80_2 rfl) rfl rfl ?_
    refine RD.take 3 rfl (by kernel_rfl) (by kernel_rfl) (by kernel_rfl) (fun w' s' => .load1 sh36 rfl ((hb_7.step s' (fun e => e.elim (fun e => n_4__7.symm e) (fun e => Nat.not_le.2 ltD_b_7 e))).cell rfl)) rfl rfl ?_
    refine RD.all [4] (by kernel_rfl) rfl (RDs.cons rfl ?_ (RDs.nil))
    refine RL.store sh34 rfl rfl rfl hb_4 (by exact Nat.le_of_ble_eq_true rfl) (by rfl) rfl (fun w10 z10 hb_4 a10 => ?_)
    have S := S.upd a10 ge_4
    have hb_7 := hb_7.upd a10 n_4__7.symm
    have hb_10 := hb_10.upd a10 n_4__10.symm
    have szB := Nat.le_trans szB a10.size
    have o := o.updD a10 d4
    have szD := Nat.le_trans szD a10.size
    have hb_4 : Has w10 b_4 ([.slice (some ⟨b_10, 0, none⟩) size size, .slice a_u ((freeB size (size - cnt 10 l)).map fun x => [i6 x]).length c_u]) _ := hb_4.now (by kernel_rfl)
    refine RD.backW rfl (a10.mono fun k _ e => e ▸ (.inl (rfl))) ?_
    refine RD.take 5 rfl (by kernel_rfl) (by kernel_rfl) (by kernel_rfl) (fun w' s' => .assign rfl) rfl rfl ?_
    refine RD.done (by kernel_rfl) (RC.back ?_)
    refine RC.done (rs := [.cell 4 34, .tmp 5]) (vs := [_, _]) rfl rfl ⟨⟨_, rfl, .inr ⟨[.slice (some ⟨b_10, 0, none⟩) size size, .slice a_u ((freeB size (size - cnt 10 l)).map fun x => [i6 x]).length c_u], sh34, hb_4.row, rfl⟩⟩, rfl, trivial⟩ ?_
    -- end 1
    have kc := o.form
    obtain ⟨_, c', e, hk⟩ := kc
    cases e
    rw [List.length_map] at hk
    have hns := hB.len
    simp only [] at hns
    refine ⟨_, r, some ⟨b_10, 0, none⟩, a_u, size, c_u, ?_, hB, by rw [hB.len]; exact Nat.le_refl _, hk, fun N hN u hu => ⟨?_, (o.imm (N := N) (fun k hk => by have := hN k hk; omega)) u hu, hB.nok hok, ?_⟩, S⟩
    · show tup [Value.agg _, _] = _
      simp only [arV, hns, List.length_map]
      rfl
    · exact Has.sl0 (hb_10.step hu (fun e => by have := hN _ e; omega)) (fun r hr => by obtain ⟨z, _, rfl⟩ := List.mem_map.1 hr; rfl)
    · intro x hx
      have := freeB_mem.1 hx
      unfold I64
      omega
end Go.Proofs.Ytbfjobmebkhblaa
set_option linter.unusedVariables false
set_option linter.unusedSimpArgs false
namespace Go.Proofs.Ytbfjobmebkhblaa
open Go Go.XL
section
variable {H : Type} {enc : TypeId × Value → H} {W : World} {base : Nat} {sp : Nat → Bool} {held : Bool} {v : Value} {d : DataW H} {ps : List MemPlace} {r : Reach} {b : Nat}
set_option maxRecDepth 100000 in
theorem open_i64s (hok : Value.okWide Try.prog W r b 25 v) (h : DataW.Trod enc Try.prog W base sp held 25 v d ps) : ∃ (a : Option Addr) (l : List Int) (c : Nat), v = .slice a l.length c ∧ l.length ≤ c ∧ c ≤ maxLen ∧ Sl W a 1 (l.map fun x => [i6 x]) ∧ ∀ x ∈ l, I64 x :=
  open_sl (fun x => [i6 x]) I64 sl25 rfl rfl fit_int hok h
end
end Go.Proofs.Ytbfjobmebkhblaa
set_option linter.unusedVariables false
set_option linter.unusedSimpArgs false
namespace Go.Proofs.Ytbfjobmebkhblaa
open Go Go.XL
theorem c_refAt6 (l : List It) (a : Option Addr) (c m : Nat) (hm : m = l.length) (key : Int) (w : World) (hl : Sl w a 2 (l.map It.cells)) (hb : l.length ≤ 1000000) :
    FC Try.prog 20 [.slice a m c, .int .i64 key] w (fun v w' => Sub w w' ∧ ∃ n, v = .int .i64 n ∧ (n < 0 ∧ hasK l key = false ∨ 0 ≤ n ∧ hasK l key = true ∧ ∃ y, l[n.toNat]? = some y ∧ y.k = key)) := by
  subst hm
  refine FC.intro Try.func20 rfl Try.ntmps20 rfl ?_
  have S := Sub.refl w
  refine RC.seq ?_
  refine RC.region rfl ?_
  refine RL.ev (.assign rfl) rfl rfl ?_
  refine RL.nil (RC.back ?_)
  refine RC.seq ?_
  refine RC.seq ?_
  refine RC.region rfl ?_
  refine RL.ev (.move rfl) rfl rfl ?_
  refine RL.ev (.len sl26 rfl) rfl rfl ?_
  refine RL.ev (.move rfl) rfl rfl ?_
  refine RL.nil (RC.back ?_)
  refine RC.block ?_
  refine RC.loop (α := Nat) (fun i => [(1, .int .i64 key), (7, .slice a l.length c), (8, .int .i64 (l.length : Int)), (9, .int .i64 (i : Int))]) (fun i w1 => (i ≤ l.length ∧ ∀ y ∈ l.take i, ¬ y.k = key) ∧ Sub w w1) (fun i => l.length - i) 0 (keep_of (by repeat (first | exact trivial | refine And.intro rfl ?_))) (⟨⟨Nat.zero_le _, by simp⟩, S⟩) (fun i w1 hJ => ?_)
  obtain ⟨⟨hi, hp⟩, S⟩ := hJ
  refine RC.seq ?_
  refine RC.region rfl ?_
  refine RL.ev (.bin rfl rfl rfl) rfl rfl ?_
  refine RL.nil (RC.back ?_)
  refine RC.seq ?_
  refine RC.cond_dec rfl (fun h2 => ?_) (fun h2 => ?_)
  ·
    obtain ⟨x, hx⟩ := getSome (l := l) (i := i) (by omega)
    refine RC.skip (RC.back ?_)
    refine RC.seq ?_
    refine RC.block ?_
    refine RC.seq ?_
    refine RC.region rfl ?_
    refine RL.ev (.move rfl) rfl rfl ?_
    refine RL.ev (.indexS sl26 rfl rfl (by omega) (hl.is (i := 0) (by simp only [List.length_map, List.length_cons, List.length_nil]; omega))) rfl rfl ?_
    refine RL.ev (.loadR (x.cells) sh29 rfl ((hl.sub S).rowAt (enc := It.cells) (i := i) hx) rfl) rfl rfl ?_
    refine RL.alloc ze29 rfl rfl (fun b_6 w_6 e_6 z_6 hb_6 s_6 => ?_)
    have ge_6 := S.le e_6
    have S := S.trans s_6
    refine RL.ev (.assign rfl) rfl rfl ?_
    refine RL.store sh29 rfl rfl rfl hb_6 (by exact Nat.le_of_ble_eq_true rfl) (by rfl) rfl (fun w3 z3 hb_6 a3 => ?_)
    have S := S.upd a3 ge_6
    have hb_6 : Has w3 b_6 (x.cells) _ := hb_6.now (by kernel_rfl)
    refine RL.nil (RC.back ?_)
    refine RC.seq ?_
    refine RC.region rfl ?_
    refine RL.ev (.field0 fo29_0 rfl) rfl rfl ?_
    refine RL.ev (.load1 sh2 rfl (hb_6.cell rfl)) rfl rfl ?_
    refine RL.ev (.move rfl) rfl rfl ?_
    refine RL.ev (.bin rfl rfl rfl) rfl rfl ?_
    refine RL.nil (RC.back ?_)
    refine RC.cond_dec rfl (fun h4 => ?_) (fun h4 => ?_)
    ·
      have hk := h4
      refine RC.seq ?_
      refine RC.region rfl ?_
      refine RL.ev (.move rfl) rfl rfl ?_
      refine RL.ev (.assign rfl) rfl rfl ?_
      refine RL.nil (RC.back ?_)
      refine RC.done (rs := [.tmp 4]) (vs := [_]) rfl rfl ⟨rfl, trivial⟩ ?_
      -- end 1
      exact ⟨S, _, rfl, .inr ⟨by omega, hasK_iff.2 ⟨x, List.mem_of_getElem? hx, hk⟩, x, hx, hk⟩⟩
    ·
      have hk := h4
      refine RC.skip (RC.back ?_)
      refine RC.region rfl ?_
      refine RL.ev (.as (.bin rfl rfl rfl) (wi64 (y := ((i + 1 : Nat) : Int)) (by omega) (by omega))) rfl rfl ?_
      refine RL.ev (.move rfl) rfl rfl ?_
      exact RL.nil (fun a ka => ⟨i + 1, ⟨⟨by omega, fun y hy => by rw [List.take_add_one, hx] at hy; rcases List.mem_append.1 hy with hy | hy; exact hp y hy; (have e : y = x := (by simpa using hy)); rw [e]; exact hk⟩, S⟩, by omega, ka.keep (keep_of (by repeat (first | exact trivial | refine And.intro rfl ?_)))⟩)
  ·
    obtain rfl : i = l.length := (by omega)
    rw [List.take_length] at hp
    refine RC.exit rfl (RC.back ?_)
    refine RC.seq ?_
    refine RC.region rfl ?_
    refine RL.ev (.assign rfl) rfl rfl ?_
    refine RL.nil (RC.back ?_)
    refine RC.done (rs := [.tmp 4]) (vs := [_]) rfl rfl ⟨rfl, trivial⟩ ?_
    -- end 2
    exact ⟨S, _, rfl, .inl ⟨by decide, hasK_no hp⟩⟩
end Go.Proofs.Ytbfjobmebkhblaa
set_option linter.unusedVariables false
set_option linter.unusedSimpArgs false
namespace Go.Proofs.Ytbfjobmebkhblaa
open Go Go.XL
theorem tab_of {A : Ar} {r : Int} {L : List It} (hA : AOk A) (h : IsH A 10 r L) (hap : Ap L) (hl : L.length ≤ 200) : isTab A r := ⟨hA, L, h, hap, hl⟩
theorem put_twoH {A B : Ar} {r key v r' e : Int} {L : List It} (h : PutPH A r key v B r' e) (hm : isTab A r) (hL : IsH A 10 r L) (hap : Ap L) :
    (BadH L key → e = 5 ∧ r' = 0) ∧ (¬ BadH L key → e = 2 ∧ A.free.length < cnt 10 (putM L key v) ∨ e = 0 ∧ Ext A B ∧ AOk B ∧ A.free.length ≤ B.free.length + cnt 10 (putM L key v) ∧ IsH B 10 r' (putM L key v)) := by
  obtain ⟨_, h2, h3⟩ := h
  refine ⟨fun hb => ?_, fun hb => ?_⟩
  · rcases h3 L hm hL hap with h | h | h
    · exact ⟨h.2, (h2 (by omega)).2⟩
    · exact absurd hb h.1
    · exact absurd hb h.1
  · rcases h3 L hm hL hap with h | h | h
    · exact absurd h.1 hb
    · exact .inl h.2
    · exact .inr h.2
theorem del_twoH {A B : Ar} {r key r' e : Int} {L : List It} (h : DelPH A r key B r' e) (hm : isTab A r) (hL : IsH A 10 r L) (hap : Ap L) :
    (hasK L key = false → e = 3 ∧ r' = 0) ∧ (hasK L key = true → e = 2 ∧ A.free.length < cnt 10 (delL L key) ∨ e = 0 ∧ Ext A B ∧ AOk B ∧ A.free.length ≤ B.free.length + cnt 10 (delL L key) ∧ IsH B 10 r' (delL L key)) := by
  obtain ⟨_, h2, h3⟩ := h
  refine ⟨fun hb => ?_, fun hb => ?_⟩
  · rcases h3 L hm hL hap with h | h | h
    · exact ⟨h.2, (h2 (by omega)).2⟩
    · rw [hb] at h; cases h.1
    · rw [hb] at h; cases h.1
  · rcases h3 L hm hL hap with h | h | h
    · rw [hb] at h; cases h.1
    · exact .inl h.2
    · exact .inr h.2
/-- a put that must go well -/
theorem PutPH.good {A B : Ar} {r key v r' e : Int} {L : List It} (h : PutPH A r key v B r' e) (hA : AOk A) (hL : IsH A 10 r L) (hap : Ap L) (hl : L.length < 9) (hk : -1073741824 ≤ key ∧ key ≤ 1073741824) (hf : 12 * (L.length + 1) ≤ A.free.length) :
    e = 0 ∧ Ext A B ∧ AOk B ∧ A.free.length ≤ B.free.length + cnt 10 (putM L key v) ∧ IsH B 10 r' (putM L key v) := by
  have hs := shL_le key L
  have hc := cnt_le 10 (putM L key v)
  have hpl := putM_len (key := key) (v := v) hap
  have hb : ¬ BadH L key := fun h => h.elim (by omega) (fun h => h.elim (by omega) (fun h => by omega))
  rcases (put_twoH h (tab_of hA hL hap (by omega)) hL hap).2 hb with h | h
  · omega
  · exact h
end Go.Proofs.Ytbfjobmebkhblaa
set_option linter.unusedVariables false
set_option linter.unusedSimpArgs false
namespace Go.Proofs.Ytbfjobmebkhblaa
open Go Go.XL
section
variable {σ α : Type} {nx : σ → α → σ × Bool} {s : σ}
theorem pushF_one (z : α) : pushF nx s [z] = nx s z := by
  simp only [pushF]
  split
  · rename_i h; exact Prod.ext rfl h.symm
  · rename_i h; exact Prod.ext rfl (by simpa using h)
theorem pushF_take {ks : List α} {j : Nat} {z : α} (hz : ks[j]? = some z) (h : (pushF nx s (ks.take j)).2 = true) : pushF nx s (ks.take (j + 1)) = nx (pushF nx s (ks.take j)).1 z := by
  rw [List.take_add_one, hz, pushF_app h]; exact pushF_one z
theorem pushF_stop {ks : List α} {j : Nat} (h : (pushF nx s (ks.take j)).2 = false) : pushF nx s ks = pushF nx s (ks.take j) := by
  conv => lhs; rw [← List.take_append_drop j ks]
  exact pushF_l h
theorem pushF_sum {cnt : σ → Nat} {lenK : α → Nat} (h : ∀ s x, cnt (nx s x).1 ≤ cnt s + lenK x) : ∀ (L : List α) (s : σ), cnt (pushF nx s L).1 ≤ cnt s + (L.map lenK).sum
  | [], s => Nat.le_add_right _ _
  | x :: L, s => by
    have h1 := h s x
    rw [pushF, List.map_cons, List.sum_cons]
    split
    · have := pushF_sum h L (nx s x).1; omega
    · simp only []; omega
theorem sum_take {lenK : α → Nat} {ks : List α} {j : Nat} {z : α} (hz : ks[j]? = some z) : ((ks.take j).map lenK).sum + lenK z ≤ (ks.map lenK).sum := by
  have e : (ks.map lenK).sum = ((ks.take (j + 1)).map lenK).sum + ((ks.drop (j + 1)).map lenK).sum := by
    rw [← List.sum_append, ← List.map_append, List.take_append_drop]
  rw [e, List.take_add_one, hz, List.map_append, List.sum_append]
  simp
end
/-- a row of rows -/
theorem pushF_flat {σ α β : Type} {step : σ → β → σ × Bool} (f : α → List β) : ∀ (ks : List α) (s : σ), pushF (fun s z => pushF step s (f z)) s ks = pushF step s (ks.flatMap f)
  | [], s => rfl
  | z :: ks, s => by
    rw [List.flatMap_cons, pushF]
    by_cases h : (pushF step s (f z)).2 = true
    · rw [if_pos h, pushF_app h, pushF_flat f ks]
    · rw [if_neg h, pushF_l (by simpa using h)]
      exact Prod.ext rfl (by simpa using h)
/-- what a function that goes over references owes -/
def IdxT {σ : Type} (g : FuncId) (cs : List Value) (ks : List Int) (cnt : σ → Nat) (N : Nat) (lenK : Int → Nat) (I : World → Prop) (H : σ → Bool → (Nat → Prop) → World → Prop) (nx : σ → Int → σ × Bool) : Prop :=
  ∀ z ∈ ks, ∀ (s : σ) (C M : Nat → Prop) (W : World), cnt s + lenK z ≤ N → Ft M I W → (∀ k, M k → ¬ C k) → Ft C (H s true C) W → FC Try.prog g ([u6 z] ++ cs) W (fun v w' => ∃ C', v = .bool (!(nx s z).2) ∧ Ft C' (H (nx s z).1 (nx s z).2 C') w' ∧ Agr C W w' ∧ Up C W C')
theorem c_idxK {σ : Type} (g : FuncId) (hg : calleeOK Try.prog g = true) (cs : List Value) (ks : List Int) (a : Option Addr) (c : Nat) (hk : ks.length ≤ 1000) (cnt : σ → Nat) (N : Nat) (lenK : Int → Nat) (I : World → Prop) (H : σ → Bool → (Nat → Prop) → World → Prop) (nx : σ → Int → σ × Bool) (hc : ∀ s x, cnt (nx s x).1 ≤ cnt s + lenK x) (hT : IdxT g cs ks cnt N lenK I H nx) (hI : ∀ u, I u → Sl u a 1 (ks.map fun x => [u6 x]))
    (s : σ) (C M : Nat → Prop) (w : World) (m : Nat) (hm : m = ks.length) (hN : cnt s + (ks.map lenK).sum ≤ N) (hM : Ft M I w) (hMC : ∀ k, M k → ¬ C k) (hH : Ft C (H s true C) w) :
    FC Try.prog 107 [.slice a m c, .func (.func g) #[] cs.toArray] w (fun v w' => ∃ C' n, v = .int .i64 n ∧ (0 ≤ n ↔ (pushF nx s ks).2 = false) ∧ Ft C' (H (pushF nx s ks).1 (pushF nx s ks).2 C') w' ∧ Agr C w w' ∧ Up C w C') := by
  subst hm
  have hlen : ks.length < 9223372036854775807 := by omega
  refine FC.intro Try.func107 rfl Try.ntmps107 rfl ?_
  have G : Agr C w w := Agr.refl _ _
  refine RC.seq ?_
  refine RC.region rfl ?_
  refine RL.ev (.assign rfl) rfl rfl ?_
  refine RL.nil (RC.back ?_)
  refine RC.seq ?_
  refine RC.seq ?_
  refine RC.region rfl ?_
  refine RL.ev (.move rfl) rfl rfl ?_
  refine RL.ev (.len sl118 rfl) rfl rfl ?_
  refine RL.ev (.move rfl) rfl rfl ?_
  refine RL.nil (RC.back ?_)
  refine RC.block ?_
  refine RC.loop (α := Nat × (Nat → Prop)) (fun x => [(0, .slice a ks.length c), (1, .func (.func g) #[] cs.toArray), (7, .int .i64 (ks.length : Int)), (8, .int .i64 (x.1 : Int))]) (fun x w1 => (x.1 ≤ ks.length ∧ (pushF nx s (ks.take x.1)).2 = true) ∧ Ft x.2 (H (pushF nx s (ks.take x.1)).1 true x.2) w1 ∧ Ft M I w1 ∧ (∀ k, M k → ¬ x.2 k) ∧ Agr C w w1 ∧ Up C w x.2) (fun x => ks.length - x.1) (0, C) (keep_of (by repeat (first | exact trivial | refine And.intro rfl ?_))) (⟨⟨Nat.zero_le _, rfl⟩, hH, hM, hMC, G, Up.refl _ _⟩) (fun x w1 hJ => ?_)
  obtain ⟨j, Cj⟩ := x; obtain ⟨⟨hj, ht⟩, hH, hM, hMC, G, up⟩ := hJ; simp only [] at hj ht hH hMC up; have hsl := hI _ hM.now; have hsum := pushF_sum hc (ks.take j) s
  refine RC.seq ?_
  refine RC.region rfl ?_
  refine RL.ev (.bin rfl rfl rfl) rfl rfl ?_
  refine RL.nil (RC.back ?_)
  refine RC.seq ?_
  refine RC.cond_dec rfl (fun h2 => ?_) (fun h2 => ?_)
  ·
    obtain ⟨z, hz⟩ := getSome (l := ks) (i := j) (by omega)
    have hst := sum_take (lenK := lenK) hz
    refine RC.skip (RC.back ?_)
    refine RC.seq ?_
    refine RC.block ?_
    refine RC.seq ?_
    refine RC.region rfl ?_
    refine RL.ev (.move rfl) rfl rfl ?_
    refine RL.ev (.assign rfl) rfl rfl ?_
    refine RL.nil (RC.back ?_)
    refine RC.seq ?_
    refine RC.region rfl ?_
    refine RL.ev (.move rfl) rfl rfl ?_
    refine RL.ev (.move rfl) rfl rfl ?_
    refine RL.ev (.move rfl) rfl rfl ?_
    refine RL.ev (.indexS sl118 rfl rfl (by omega) (hsl.is (i := j) (by simp only [List.length_map]; omega))) rfl rfl ?_
    refine RL.ev (.load1 sh36 rfl (hsl.one (enc := u6) (i := j) hz)) rfl rfl ?_
    refine RL.callv rfl rfl (us := []) (cs := cs) hg (hT z (List.mem_of_getElem? hz) _ Cj M w1 (by omega) hM hMC hH) rfl rfl ?_
    rintro _ w3 ⟨C1, rfl, hH1, ag, up1⟩
    have hMC1 : ∀ k, M k → ¬ C1 k := fun k hk => up1.not (hM.lt k hk) (hMC k hk)
    have hM := hM.step ag hMC
    have up1 := up.trans (up1.le G.size)
    have G := G.up up ag
    rw [← pushF_take hz ht] at hH1
    have hH := hH1
    rw [← pushF_take hz ht]
    refine RL.nil (RC.back ?_)
    refine RC.cond rfl (fun h5 => ?_) (fun h5 => ?_)
    ·
      have q1 : (pushF nx s (ks.take (j + 1))).2 = false := (by simpa using h5)
      have hpe := pushF_stop q1
      refine RC.seq ?_
      refine RC.region rfl ?_
      refine RL.ev (.move rfl) rfl rfl ?_
      refine RL.ev (.assign rfl) rfl rfl ?_
      refine RL.nil (RC.back ?_)
      refine RC.done (rs := [.tmp 4]) (vs := [_]) rfl rfl ⟨rfl, trivial⟩ ?_
      -- end 1
      rw [hpe]
      exact ⟨C1, (j : Int), rfl, ⟨fun _ => q1, fun _ => by omega⟩, hH, G, up1⟩
    ·
      have q1 : (pushF nx s (ks.take (j + 1))).2 = true := (by simpa using h5)
      refine RC.skip (RC.back ?_)
      refine RC.region rfl ?_
      refine RL.ev (.as (.bin rfl rfl rfl) (wi64 (y := ((j + 1 : Nat) : Int)) (by omega) (by omega))) rfl rfl ?_
      refine RL.ev (.move rfl) rfl rfl ?_
      exact RL.nil (fun a ka => ⟨(j + 1, C1), ⟨⟨by simp only []; omega, q1⟩, (by rw [q1] at hH; exact hH), hM, hMC1, G, up1⟩, by omega, ka.keep (keep_of (by repeat (first | exact trivial | refine And.intro rfl ?_)))⟩)
  ·
    obtain rfl : j = ks.length := (by omega)
    rw [List.take_length] at ht hH
    refine RC.exit rfl (RC.back ?_)
    refine RC.seq ?_
    refine RC.region rfl ?_
    refine RL.ev (.assign rfl) rfl rfl ?_
    refine RL.nil (RC.back ?_)
    refine RC.done (rs := [.tmp 4]) (vs := [_]) rfl rfl ⟨rfl, trivial⟩ ?_
    -- end 2
    exact ⟨Cj, -1, rfl, ⟨fun h => by omega, fun h => by rw [ht] at h; cases h⟩, (by rw [ht]; exact hH), G, up⟩
theorem c_containsK {σ : Type} (g : FuncId) (hg : calleeOK Try.prog g = true) (cs : List Value) (ks : List Int) (a : Option Addr) (c : Nat) (hk : ks.length ≤ 1000) (cnt : σ → Nat) (N : Nat) (lenK : Int → Nat) (I : World → Prop) (H : σ → Bool → (Nat → Prop) → World → Prop) (nx : σ → Int → σ × Bool) (hc : ∀ s x, cnt (nx s x).1 ≤ cnt s + lenK x) (hT : IdxT g cs ks cnt N lenK I H nx) (hI : ∀ u, I u → Sl u a 1 (ks.map fun x => [u6 x]))
    (s : σ) (C M : Nat → Prop) (w : World) (m : Nat) (hm : m = ks.length) (hN : cnt s + (ks.map lenK).sum ≤ N) (hM : Ft M I w) (hMC : ∀ k, M k → ¬ C k) (hH : Ft C (H s true C) w) :
    FC Try.prog 99 [.slice a m c, .func (.func g) #[] cs.toArray] w (fun v w' => ∃ C', v = .bool (!(pushF nx s ks).2) ∧ Ft C' (H (pushF nx s ks).1 (pushF nx s ks).2 C') w' ∧ Agr C w w' ∧ Up C w C') := by
  refine FC.intro Try.func99 rfl Try.ntmps99 rfl ?_
  refine RC.seq ?_
  refine RC.region rfl ?_
  refine RL.ev (.assign rfl) rfl rfl ?_
  refine RL.nil (RC.back ?_)
  refine RC.seq ?_
  refine RC.region rfl ?_
  refine RL.ev (.move rfl) rfl rfl ?_
  refine RL.ev (.move rfl) rfl rfl ?_
  refine RL.call rfl ok107 (c_idxK g hg cs ks a c hk cnt N lenK I H nx hc hT hI s C M w m hm hN hM hMC hH) rfl rfl ?_
  rintro _ w1 ⟨C1, n, rfl, hn, hH1, ag, up⟩
  refine RL.ev (.as (v' := .bool (!(pushF nx s ks).2)) (.bin rfl rfl rfl) (by exact congrArg Value.bool (by rw [Bool.eq_iff_iff, decide_eq_true_iff, hn, Bool.not_eq_true']))) rfl rfl ?_
  refine RL.ev (.assign rfl) rfl rfl ?_
  refine RL.nil (RC.back ?_)
  refine RC.done (rs := [.tmp 4]) (vs := [_]) rfl rfl ⟨rfl, trivial⟩ ?_
  -- end 1
  exact ⟨C1, rfl, hH1, ag, up⟩
/-- what is read while a table's keys are handed on -/
def PuI (na fa : Option Addr) (nc fc : Nat) (A : Ar) (l b3 b5 b7 : Nat) (y : Node) (u : World) : Prop :=
  ArR u na fa A ∧ Has u b3 [.slice na A.nodes.length nc, .slice fa A.free.length fc] 34 ∧ Has u b5 [.func (.yield l) #[] #[]] 83 ∧ Has u b7 y.cells 97
/-- a push of a reference's keys -/
def PuT {σ : Type} (l : Nat) (H : σ → Bool → (Nat → Prop) → World → Prop) (step : σ → It → σ × Bool) (cnt : σ → Nat) (N : Nat) (A : Ar) (na fa : Option Addr) (nc fc : Nat) (r : Int) (L : List It) : Prop :=
  ∀ (s : σ) (C M : Nat → Prop) (w : World), cnt s + L.length ≤ N → Ft M (fun u => ArR u na fa A) w → (∀ k, M k → ¬ C k) → Ft C (H s true C) w →
    FC Try.prog 75 [arV na fa nc fc A, .int .u64 r, .func (.yield l) #[] #[]] w (fun v w' => ∃ C', v = .bool (pushF step s L).2 ∧ Ft C' (H (pushF step s L).1 (pushF step s L).2 C') w' ∧ Agr C w w' ∧ Up C w C')
theorem c_push1W {σ : Type} (l : Nat) (H : σ → Bool → (Nat → Prop) → World → Prop) (step : σ → It → σ × Bool) (cnt : σ → Nat) (N : Nat) (hc : ∀ s x, cnt (step s x).1 ≤ cnt s + 1) (hT : YT Try.prog l It.val It.ok cnt N H step) (A : Ar) (na fa : Option Addr) (nc fc : Nat) (b3 b5 b7 : Nat) (y : Node) (z : Int) (L : List It) (hp : PuT l H step cnt N A na fa nc fc z L) (s : σ) (C M : Nat → Prop) (w : World) (hN : cnt s + L.length ≤ N) (hM : Ft M (PuI na fa nc fc A l b3 b5 b7 y) w) (hMC : ∀ k, M k → ¬ C k) (hH : Ft C (H s true C) w) :
    FC Try.prog 100 ([u6 z] ++ [.pointer (some ⟨b3, 0, none⟩), .pointer (some ⟨b5, 0, none⟩)]) w (fun v w' => ∃ C', v = .bool (!(pushF step s L).2) ∧ Ft C' (H (pushF step s L).1 (pushF step s L).2 C') w' ∧ Agr C w w' ∧ Up C w C') := by
  obtain ⟨hA, h3, h5, h7⟩ := hM.now
  refine FC.intro Try.func100 rfl Try.ntmps100 rfl ?_
  refine RC.seq ?_
  refine RC.region rfl ?_
  refine RL.ev (.assign rfl) rfl rfl ?_
  refine RL.nil (RC.back ?_)
  refine RC.seq ?_
  refine RC.region rfl ?_
  refine RL.ev (.loadR ([.slice na A.nodes.length nc, .slice fa A.free.length fc]) sh34 rfl h3.row rfl) rfl rfl ?_
  refine RL.ev (.move rfl) rfl rfl ?_
  refine RL.ev (.load1 sh83 rfl (h5.cell rfl)) rfl rfl ?_
  refine RL.call rfl ok75 (hp s C M w hN (hM.imp fun u h => h.1) hMC hH) rfl rfl ?_
  rintro _ w1 ⟨C1, rfl, hH1, ag, up⟩
  refine RL.ev (.not rfl) rfl rfl ?_
  refine RL.ev (.assign rfl) rfl rfl ?_
  refine RL.nil (RC.back ?_)
  refine RC.done (rs := [.tmp 4]) (vs := [_]) rfl rfl ⟨rfl, trivial⟩ ?_
  -- end 1
  exact ⟨C1, rfl, hH1, ag, up⟩
theorem c_pushNil {σ : Type} (l : Nat) (H : σ → Bool → (Nat → Prop) → World → Prop) (step : σ → It → σ × Bool) (cnt : σ → Nat) (N : Nat) (hc : ∀ s x, cnt (step s x).1 ≤ cnt s + 1) (hT : YT Try.prog l It.val It.ok cnt N H step) (A : Ar) (na fa : Option Addr) (nc fc : Nat) (s0 : Unit) : PuT l H step cnt N A na fa nc fc 0 [] := by
  intro s C M w hN hA hMC hH
  refine FC.introY Try.func75 rfl Try.ntmps75 rfl ?_
  have G : Agr C w w := Agr.refl _ _
  refine RC.seq ?_
  refine RC.region rfl ?_
  refine RL.box rfl rfl rfl (fun b_3 w_3 e_3 z_3 hb_3 s_3 => ?_)
  have d_hH_b_3 := hH.neNew e_3
  have geG_3 := agLe G e_3
  have G := G.trans s_3.agr
  have hH := hH.sub s_3
  have hb_3 : Has w_3 b_3 ([.slice na A.nodes.length nc, .slice fa A.free.length fc]) _ := hb_3
  refine RL.box rfl rfl rfl (fun b_5 w_5 e_5 z_5 hb_5 s_5 => ?_)
  have n_3__5 := hb_3.ne e_5
  have d_hH_b_5 := hH.neNew e_5
  have geG_5 := agLe G e_5
  have G := G.trans s_5.agr
  have hH := hH.sub s_5
  have hb_3 := hb_3.sub s_5
  refine RL.ev (.assign rfl) rfl rfl ?_
  refine RL.nil (RC.back ?_)
  refine RC.seq ?_
  refine RC.seq ?_
  refine RC.region rfl ?_
  refine RL.ev (.move rfl) rfl rfl ?_
  refine RL.ev (.bin rfl rfl rfl) rfl rfl ?_
  refine RL.nil (RC.back ?_)
  refine RC.cond_dec rfl (fun h1 => ?_) (fun h1 => ?_)
  ·
    refine RC.seq ?_
    refine RC.region rfl ?_
    refine RL.ev (.assign rfl) rfl rfl ?_
    refine RL.nil (RC.back ?_)
    refine RC.done (rs := [.tmp 6]) (vs := [_]) rfl rfl ⟨rfl, trivial⟩ ?_
    -- end 1
    exact ⟨C, rfl, hH, G, Up.refl _ _⟩
  ·
    exact absurd rfl h1
theorem c_pushLeaf {σ : Type} (l : Nat) (H : σ → Bool → (Nat → Prop) → World → Prop) (step : σ → It → σ × Bool) (cnt : σ → Nat) (N : Nat) (hc : ∀ s x, cnt (step s x).1 ≤ cnt s + 1) (hT : YT Try.prog l It.val It.ok cnt N H step) (A : Ar) (na fa : Option Addr) (nc fc : Nat) (r : Int) (hr : U64 r) (x : It) (hx : lfA A r x) : PuT l H step cnt N A na fa nc fc r [x] := by
  intro s C M w hNn hA hMC hH
  obtain ⟨g, hg⟩ := hx
  have hyo := hA.now.nok _ (getA_nok hg)
  have hr0 := getA_nz hg
  have hCw : ∀ k, C k → k < w.heap.size := hH.lt
  rw [List.length_singleton] at hNn
  refine FC.introY Try.func75 rfl Try.ntmps75 rfl ?_
  have G : Agr C w w := Agr.refl _ _
  refine RC.seq ?_
  refine RC.region rfl ?_
  refine RL.box rfl rfl rfl (fun b_3 w_3 e_3 z_3 hb_3 s_3 => ?_)
  have d_hA_b_3 := hA.neNew e_3
  have d_hH_b_3 := hH.neNew e_3
  have geG_3 := agLe G e_3
  have G := G.trans s_3.agr
  have hA := hA.sub s_3
  have hH := hH.sub s_3
  have hb_3 : Has w_3 b_3 ([.slice na A.nodes.length nc, .slice fa A.free.length fc]) _ := hb_3
  refine RL.box rfl rfl rfl (fun b_5 w_5 e_5 z_5 hb_5 s_5 => ?_)
  have n_3__5 := hb_3.ne e_5
  have d_hA_b_5 := hA.neNew e_5
  have d_hH_b_5 := hH.neNew e_5
  have geG_5 := agLe G e_5
  have G := G.trans s_5.agr
  have hA := hA.sub s_5
  have hH := hH.sub s_5
  have hb_3 := hb_3.sub s_5
  refine RL.ev (.assign rfl) rfl rfl ?_
  refine RL.nil (RC.back ?_)
  refine RC.seq ?_
  refine RC.seq ?_
  refine RC.region rfl ?_
  refine RL.ev (.move rfl) rfl rfl ?_
  refine RL.ev (.bin rfl rfl rfl) rfl rfl ?_
  refine RL.nil (RC.back ?_)
  refine RC.cond_dec rfl (fun h1 => ?_) (fun h1 => ?_)
  ·
    exact absurd h1 hr0
  ·
    refine RC.skip (RC.back ?_)
    refine RC.seq ?_
    refine RC.region rfl ?_
    refine RL.ev (.loadR ([.slice na A.nodes.length nc, .slice fa A.free.length fc]) sh34 rfl hb_3.row rfl) rfl rfl ?_
    refine RL.ev (.move rfl) rfl rfl ?_
    refine RL.call rfl ok94 (c_aGet A na fa nc fc r hr w_5 hA.now) rfl rfl ?_
    rintro _ w2 ⟨rfl, s3⟩
    have G := G.trans s3.agr
    have hA := hA.sub s3
    have hH := hH.sub s3
    have hb_3 := hb_3.sub s3
    have hb_5 := hb_5.sub s3
    refine RL.ev (.as (v' := .tuple #[(hN 3 g x.k x.v 0 []).val, .int .i64 0]) (.move rfl) (by rw [getV_yes hg])) rfl rfl ?_
    refine RL.ev (.extract rfl rfl) rfl rfl ?_
    refine RL.ev (.extract rfl rfl) rfl rfl ?_
    refine RL.alloc ze97 rfl rfl (fun b_7 w_7 e_7 z_7 hb_7 s_7 => ?_)
    have n_3__7 := hb_3.ne e_7
    have n_5__7 := hb_5.ne e_7
    have d_hA_b_7 := hA.neNew e_7
    have d_hH_b_7 := hH.neNew e_7
    have geG_7 := agLe G e_7
    have G := G.trans s_7.agr
    have hA := hA.sub s_7
    have hH := hH.sub s_7
    have hb_3 := hb_3.sub s_7
    have hb_5 := hb_5.sub s_7
    refine RL.store sh97 rfl rfl rfl hb_7 (by exact Nat.le_of_ble_eq_true rfl) (by rfl) rfl (fun w4 z4 hb_7 a4 => ?_)
    have G := agNew G a4 geG_7
    have hA := hA.updD a4 d_hA_b_7
    have hH := hH.updD a4 d_hH_b_7
    have hb_3 := hb_3.upd a4 n_3__7
    have hb_5 := hb_5.upd a4 n_5__7
    have hb_7 : Has w4 b_7 ((hN 3 g x.k x.v 0 []).cells) _ := hb_7.now (by kernel_rfl)
    refine RL.ev (.assign rfl) rfl rfl ?_
    refine RL.nil (RC.back ?_)
    refine RC.seq ?_
    refine RC.seq ?_
    refine RC.region rfl ?_
    refine RL.ev (.field0 fo97_0 rfl) rfl rfl ?_
    refine RL.ev (.load1 sh3 rfl (hb_7.cell rfl)) rfl rfl ?_
    refine RL.ev (.as (v' := .bool true) (.bin rfl rfl rfl) (congrArg Value.bool (decide_eq_true (rfl)))) rfl rfl ?_
    refine RL.nil (RC.back ?_)
    refine RC.cond_t rfl ?_
    refine RC.seq ?_
    refine RC.region rfl ?_
    refine RL.ev (.load1 sh83 rfl (hb_5.cell rfl)) rfl rfl ?_
    refine RL.ev (.field0 fo97_2 rfl) rfl rfl ?_
    refine RL.ev (.load1 sh2 rfl (hb_7.cell rfl)) rfl rfl ?_
    refine RL.ev (.field0 fo97_3 rfl) rfl rfl ?_
    refine RL.ev (.load1 sh2 rfl (hb_7.cell rfl)) rfl rfl ?_
    refine RL.ev (.as (v' := x.val) (.buildS ze29 pl29 rfl rfl) (by rfl)) rfl rfl ?_
    refine RL.yield rfl rfl (hT s x C w4 ⟨hyo.n, hyo.v⟩ (by omega) hH) rfl rfl ?_
    rintro _ w5 ⟨C2, rfl, hH2, ag2, up2⟩
    have up2 := up2.le G.size
    have G := G.trans ag2
    refine RL.ev (.assign rfl) rfl rfl ?_
    refine RL.nil (RC.back ?_)
    refine RC.done (rs := [.tmp 6]) (vs := [_]) rfl rfl ⟨rfl, trivial⟩ ?_
    -- end 1
    rw [pushF_one]
    exact ⟨C2, rfl, hH2, G, up2⟩
theorem c_pushNode {σ : Type} (l : Nat) (H : σ → Bool → (Nat → Prop) → World → Prop) (step : σ → It → σ × Bool) (cnt : σ → Nat) (N : Nat) (hc : ∀ s x, cnt (step s x).1 ≤ cnt s + 1) (hT : YT Try.prog l It.val It.ok cnt N H step) (A : Ar) (na fa : Option Addr) (nc fc : Nat) (r : Int) (hr : U64 r) (y : Node) (hy : getA A r = some y) (h3 : ¬ y.kind = 3) (f : Int → List It) (hf : ∀ z ∈ y.kids, PuT l H step cnt N A na fa nc fc z (f z)) : PuT l H step cnt N A na fa nc fc r (y.kids.flatMap f) := by
  intro s C M w hN hA hMC hH
  have hyo := hA.now.nok _ (getA_nok hy)
  have hr0 := getA_nz hy
  have hCw : ∀ k, C k → k < w.heap.size := hH.lt
  have hfl : (y.kids.flatMap f).length = (y.kids.map fun z => (f z).length).sum := by rw [List.length_flatMap]
  refine FC.introY Try.func75 rfl Try.ntmps75 rfl ?_
  have G : Agr C w w := Agr.refl _ _
  refine RC.seq ?_
  refine RC.region rfl ?_
  refine RL.box rfl rfl rfl (fun b_3 w_3 e_3 z_3 hb_3 s_3 => ?_)
  have d_hA_b_3 := hA.neNew e_3
  have d_hH_b_3 := hH.neNew e_3
  have geG_3 := agLe G e_3
  have G := G.trans s_3.agr
  have hA := hA.sub s_3
  have hH := hH.sub s_3
  have hb_3 : Has w_3 b_3 ([.slice na A.nodes.length nc, .slice fa A.free.length fc]) _ := hb_3
  refine RL.box rfl rfl rfl (fun b_5 w_5 e_5 z_5 hb_5 s_5 => ?_)
  have n_3__5 := hb_3.ne e_5
  have d_hA_b_5 := hA.neNew e_5
  have d_hH_b_5 := hH.neNew e_5
  have geG_5 := agLe G e_5
  have G := G.trans s_5.agr
  have hA := hA.sub s_5
  have hH := hH.sub s_5
  have hb_3 := hb_3.sub s_5
  refine RL.ev (.assign rfl) rfl rfl ?_
  refine RL.nil (RC.back ?_)
  refine RC.seq ?_
  refine RC.seq ?_
  refine RC.region rfl ?_
  refine RL.ev (.move rfl) rfl rfl ?_
  refine RL.ev (.bin rfl rfl rfl) rfl rfl ?_
  refine RL.nil (RC.back ?_)
  refine RC.cond_dec rfl (fun h1 => ?_) (fun h1 => ?_)
  ·
    exact absurd h1 hr0
  ·
    refine RC.skip (RC.back ?_)
    refine RC.seq ?_
    refine RC.region rfl ?_
    refine RL.ev (.loadR ([.slice na A.nodes.length nc, .slice fa A.free.length fc]) sh34 rfl hb_3.row rfl) rfl rfl ?_
    refine RL.ev (.move rfl) rfl rfl ?_
    refine RL.call rfl ok94 (c_aGet A na fa nc fc r hr w_5 hA.now) rfl rfl ?_
    rintro _ w2 ⟨rfl, s3⟩
    have G := G.trans s3.agr
    have hA := hA.sub s3
    have hH := hH.sub s3
    have hb_3 := hb_3.sub s3
    have hb_5 := hb_5.sub s3
    refine RL.ev (.as (v' := .tuple #[y.val, .int .i64 0]) (.move rfl) (by rw [getV_yes hy])) rfl rfl ?_
    refine RL.ev (.extract rfl rfl) rfl rfl ?_
    refine RL.ev (.extract rfl rfl) rfl rfl ?_
    refine RL.alloc ze97 rfl rfl (fun b_7 w_7 e_7 z_7 hb_7 s_7 => ?_)
    have n_3__7 := hb_3.ne e_7
    have n_5__7 := hb_5.ne e_7
    have d_hA_b_7 := hA.neNew e_7
    have d_hH_b_7 := hH.neNew e_7
    have geG_7 := agLe G e_7
    have G := G.trans s_7.agr
    have hA := hA.sub s_7
    have hH := hH.sub s_7
    have hb_3 := hb_3.sub s_7
    have hb_5 := hb_5.sub s_7
    refine RL.store sh97 rfl rfl rfl hb_7 (by exact Nat.le_of_ble_eq_true rfl) (by rfl) rfl (fun w4 z4 hb_7 a4 => ?_)
    have G := agNew G a4 geG_7
    have hA := hA.updD a4 d_hA_b_7
    have hH := hH.updD a4 d_hH_b_7
    have hb_3 := hb_3.upd a4 n_3__7
    have hb_5 := hb_5.upd a4 n_5__7
    have hb_7 : Has w4 b_7 (y.cells) _ := hb_7.now (by kernel_rfl)
    refine RL.ev (.assign rfl) rfl rfl ?_
    refine RL.nil (RC.back ?_)
    refine RC.seq ?_
    refine RC.seq ?_
    refine RC.region rfl ?_
    refine RL.ev (.field0 fo97_0 rfl) rfl rfl ?_
    refine RL.ev (.load1 sh3 rfl (hb_7.cell rfl)) rfl rfl ?_
    refine RL.ev (.as (v' := .bool false) (.bin rfl rfl rfl) (congrArg Value.bool (decide_eq_false (h3)))) rfl rfl ?_
    refine RL.nil (RC.back ?_)
    refine RC.cond_f rfl ?_
    refine RC.skip (RC.back ?_)
    refine RC.seq ?_
    refine RC.region rfl ?_
    refine RL.ev (.field0 fo97_5 rfl) rfl rfl ?_
    refine RL.ev (.sliceArr ar95 rfl) rfl rfl ?_
    refine RL.ev (.func (xs := []) (ys := [_, _]) rfl rfl) rfl rfl ?_
    refine RL.call rfl ok99 (c_containsK 100 ok100 [.pointer (some ⟨b_3, 0, none⟩), .pointer (some ⟨b_5, 0, none⟩)] y.kids (some ⟨b_7, 5, none⟩) 9 (Nat.le_of_ble_eq_true rfl) cnt N (fun z => (f z).length) (PuI na fa nc fc A l b_3 b_5 b_7 y) H (fun s z => pushF step s (f z)) (fun s z => pushF_cnt hc (f z) s) (fun z hz s C M W q1 q2 q3 q4 => c_push1W l H step cnt N hc hT A na fa nc fc b_3 b_5 b_7 y z (f z) (hf z hz) s C M W q1 q2 q3 q4) (fun u h => Has.slPart (enc := u6) (l := y.kids) (pre := [i6 y.kind, i6 y.gen, i6 y.n, i6 y.v, i6 y.s]) (post := [i6 y.pre, i6 y.suf]) h.2.2.2 rfl) s C (fun k => M k ∨ k = b_3 ∨ k = b_5 ∨ k = b_7) w4 9 rfl (by omega) (hA.and (hb_3.ft.and (hb_5.ft.and hb_7.ft))) (fun k hk hC => by rcases hk with hk | hk | hk | hk; exact hMC k hk hC; all_goals (have := hCw k hC; omega)) hH) rfl rfl ?_
    rintro _ w5 ⟨C2, rfl, hH2, ag2, up2⟩
    have up2 := up2.le G.size
    have G := G.trans ag2
    rw [pushF_flat f] at hH2
    rw [pushF_flat f]
    refine RL.ev (.not rfl) rfl rfl ?_
    refine RL.ev (.assign rfl) rfl rfl ?_
    refine RL.nil (RC.back ?_)
    refine RC.done (rs := [.tmp 6]) (vs := [_]) rfl rfl ⟨rfl, trivial⟩ ?_
    -- end 1
    exact ⟨C2, by rw [Bool.not_not]; rfl, hH2, G, up2⟩
end Go.Proofs.Ytbfjobmebkhblaa
set_option linter.unusedVariables false
set_option linter.unusedSimpArgs false
namespace Go.Proofs.Ytbfjobmebkhblaa
open Go Go.XL
/-- a table's keys and values, in the order of its nodes -/
def rowH (A : Ar) (r : Int) : List It := rdF A 12 r
theorem rowH_perm {A : Ar} {r : Int} {L : List It} (h : IsH A 10 r L) : (rowH A r).Perm L := rd_perm (k := 10) (f := 0) h
theorem c_pushAll {σ : Type} (l : Nat) (H : σ → Bool → (Nat → Prop) → World → Prop) (step : σ → It → σ × Bool) (cnt : σ → Nat) (N : Nat) (hc : ∀ s x, cnt (step s x).1 ≤ cnt s + 1) (hT : YT Try.prog l It.val It.ok cnt N H step) (A : Ar) (na fa : Option Addr) (nc fc : Nat) (hn : ∀ x ∈ A.nodes, x.ok) : ∀ (k : Nat) (r : Int) (L : List It), IsH A k r L → U64 r → PuT l H step cnt N A na fa nc fc r (rdF A (k + 2) r)
  | k, r, L, h, hr => by
    have zero : ∀ F, PuT l H step cnt N A na fa nc fc 0 (rdF A F 0) := fun F => by
      rw [rdF_no (getA_z A)]; exact c_pushNil l H step cnt N hc hT A na fa nc fc ()
    rcases row_cases L with rfl | ⟨x, rfl⟩ | h2
    · rw [isH_nil.1 h]; exact zero _
    · rw [rdF_leaf (isH_one.1 h)]; exact c_pushLeaf l H step cnt N hc hT A na fa nc fc r hr x (isH_one.1 h)
    · cases k with
      | zero =>
        obtain ⟨y, m, q1, q2, _, _, _, _, q6, q7, q8⟩ := clash_node ((isH_clash h2).1 h) h2
        have hyo := hn _ (getA_nok q1)
        rw [rdF_node q1 (by omega)]
        refine c_pushNode l H step cnt N hc hT A na fa nc fc r hr y q1 (by omega) _ fun z hz => ?_
        obtain ⟨j, hj⟩ := List.getElem?_of_mem hz
        have hj9 : j < 9 := lt_of_get hj
        by_cases hjm : j < m.length
        · obtain ⟨x, hx⟩ := getSome (l := m) hjm
          have h6 := q7 j x hx
          rw [kid_get hj] at h6
          rw [rdF_leaf h6]
          exact c_pushLeaf l H step cnt N hc hT A na fa nc fc z (hyo.kids z hz) x h6
        · have h6 := q8 j (by omega) hj9
          rw [kid_get hj] at h6
          rw [h6]; exact zero _
      | succ k =>
        obtain ⟨y, q1, q2, _, q4, q5⟩ := trie_zero h h2
        have hyo := hn _ (getA_nok q1)
        rw [show k + 1 + 2 = (k + 2) + 1 by omega, rdF_node q1 (by omega)]
        refine c_pushNode l H step cnt N hc hT A na fa nc fc r hr y q1 (by omega) _ fun z hz => ?_
        obtain ⟨j, hj⟩ := List.getElem?_of_mem hz
        have hj9 : j < 9 := lt_of_get hj
        by_cases hj4 : j < 4
        · have h6 := q4 j hj4
          rw [kid_get hj] at h6
          exact c_pushAll l H step cnt N hc hT A na fa nc fc hn k z _ h6 (hyo.kids z hz)
        · have h6 := q5 j (by omega) hj9
          rw [kid_get hj] at h6
          rw [h6]; exact zero _
theorem c_wleaves1 {σ : Type} (l : Nat) (H : σ → Bool → (Nat → Prop) → World → Prop) (step : σ → It → σ × Bool) (cnt : σ → Nat) (N : Nat) (hc : ∀ s x, cnt (step s x).1 ≤ cnt s + 1) (hT : YT Try.prog l It.val It.ok cnt N H step) (A : Ar) (na fa : Option Addr) (nc fc : Nat) (r : Int) (hr : U64 r) (L : List It) (hL : IsH A 10 r L) (s : σ) (C M : Nat → Prop) (b2 b3 : Nat) (w : World) (hN : cnt s + L.length ≤ N) (hA : Ft M (fun u => ArR u na fa A) w) (hMC : ∀ k, M k → ¬ C k) (hH : Ft C (H s true C) w)
    (h2 : Has w b2 [.slice na A.nodes.length nc, .slice fa A.free.length fc] 34) (h3 : Has w b3 [.int .u64 r] 36) :
    FC Try.prog 74 [.func (.yield l) #[] #[], .pointer (some ⟨b2, 0, none⟩), .pointer (some ⟨b3, 0, none⟩)] w (fun _ w' => ∃ C', Ft C' (H (pushF step s (rowH A r)).1 (pushF step s (rowH A r)).2 C') w' ∧ Agr C w w' ∧ Up C w C') := by
  have hlen := (rowH_perm hL).length_eq
  refine FC.intro Try.func74 rfl Try.ntmps74 rfl ?_
  refine RC.region rfl ?_
  refine RL.ev (.loadR ([.slice na A.nodes.length nc, .slice fa A.free.length fc]) sh34 rfl h2.row rfl) rfl rfl ?_
  refine RL.ev (.load1 sh36 rfl (h3.cell rfl)) rfl rfl ?_
  refine RL.ev (.move rfl) rfl rfl ?_
  refine RL.call rfl ok75 (c_pushAll l H step cnt N hc hT A na fa nc fc hA.now.nok 10 r L hL hr s C M w (by show cnt s + (rowH A r).length ≤ N; omega) hA hMC hH) rfl rfl ?_
  rintro _ w1 ⟨C1, rfl, hH1, ag, up⟩
  refine RL.nil ?_
  refine fun a ka => ⟨ka.defers, _, run_results (rs := []) (vs := []) ka rfl trivial, ?_⟩
  -- end 1
  exact ⟨C1, hH1, ag, up⟩
theorem c_wleaves (A : Ar) (na fa : Option Addr) (nc fc : Nat) (r : Int) (w : World) :
    FC Try.prog 49 [arV na fa nc fc A, .int .u64 r] w (fun v w' => ∃ b2 b3, v = .func (.func 74) #[] #[.pointer (some ⟨b2, 0, none⟩), .pointer (some ⟨b3, 0, none⟩)] ∧ Has w' b2 [.slice na A.nodes.length nc, .slice fa A.free.length fc] 34 ∧ Has w' b3 [.int .u64 r] 36 ∧ Sub w w') := by
  refine FC.intro Try.func49 rfl Try.ntmps49 rfl ?_
  have S := Sub.refl w
  refine RC.seq ?_
  refine RC.region rfl ?_
  refine RL.box rfl rfl rfl (fun b_2 w_2 e_2 z_2 hb_2 s_2 => ?_)
  have ge_2 := S.le e_2
  have S := S.trans s_2
  have hb_2 : Has w_2 b_2 ([.slice na A.nodes.length nc, .slice fa A.free.length fc]) _ := hb_2
  refine RL.box rfl rfl rfl (fun b_3 w_3 e_3 z_3 hb_3 s_3 => ?_)
  have ge_3 := S.le e_3
  have n_2__3 := hb_2.ne e_3
  have S := S.trans s_3
  have hb_2 := hb_2.sub s_3
  refine RL.ev (.assign rfl) rfl rfl ?_
  refine RL.nil (RC.back ?_)
  refine RC.seq ?_
  refine RC.region rfl ?_
  refine RL.ev (.func (xs := []) (ys := [_, _]) rfl rfl) rfl rfl ?_
  refine RL.ev (.assign rfl) rfl rfl ?_
  refine RL.nil (RC.back ?_)
  refine RC.done (rs := [.tmp 4]) (vs := [_]) rfl rfl ⟨rfl, trivial⟩ ?_
  -- end 1
  exact ⟨b_2, b_3, rfl, hb_2, hb_3, S⟩
def stCol (s : List It) (x : It) : List It × Bool := (s ++ [x], true)
theorem push_col : ∀ (l s : List It), pushF stCol s l = (s ++ l, true)
  | [], s => by rw [List.append_nil]; rfl
  | x :: l, s => by rw [pushF_t rfl, push_col l]; simp [stCol]
theorem stCol_cnt (s : List It) (x : It) : (stCol s x).1.length ≤ s.length + 1 := by simp [stCol]
/-- how the boxes stand between two rounds -/
def HCol (l : Nat) (rL : Loop) (b2 base : Nat) (rows : List It) (b : Bool) (C : Nat → Prop) (W : World) : Prop :=
  ∃ v, (Lp l (recB rL 0 b) W ∧ Has W b2 [v] 26 ∧ Ows base W 29 2 v (rows.map It.cells)) ∧ (∀ k, ob v = some k → k ≠ l ∧ k ≠ b2) ∧ ∀ k, C k ↔ (k = l ∨ k = b2 ∨ ob v = some k)
theorem HCol.ft {l : Nat} {rL : Loop} {b2 base : Nat} {rows : List It} {b : Bool} {C : Nat → Prop} {W : World} {v : Value} (hC : ∀ k, C k ↔ (k = l ∨ k = b2 ∨ ob v = some k))
    (h1 : Lp l (recB rL 0 b) W) (h2 : Has W b2 [v] 26) (h5 : Ows base W 29 2 v (rows.map It.cells)) (hob : ∀ k, ob v = some k → k ≠ l ∧ k ≠ b2) :
    Ft C (HCol l rL b2 base rows b C) W := by
  refine ⟨fun k hk => ?_, fun u a => ⟨v, ⟨h1.step a (fun hn => hn ((hC _).2 (.inl rfl))), h2.step a (fun hn => hn ((hC _).2 (.inr (.inl rfl)))), h5.step a (fun k hk hn => hn ((hC k).2 (.inr (.inr hk))))⟩, hob, hC⟩⟩
  rcases (hC k).1 hk with rfl | rfl | h
  · exact h1.lt
  · exact h2.lt
  · exact (h5.ge k h).2
theorem c_appendSeq (A : Ar) (na fa : Option Addr) (nc fc : Nat) (r : Int) (hr : U64 r) (L : List It) (hTT : IsH A 10 r L) (hl : L.length ≤ 200) (bA bR : Nat) (w : World) (hA : ArR w na fa A) (hbA : Has w bA [.slice na A.nodes.length nc, .slice fa A.free.length fc] 34) (hbR : Has w bR [.int .u64 r] 36) :
    FC Try.prog 73 [.slice none 0 0, .func (.func 74) #[] #[.pointer (some ⟨bA, 0, none⟩), .pointer (some ⟨bR, 0, none⟩)]] w (fun v w' => Sub w w' ∧ ∃ a c, v = .slice a ((rowH A r).map It.cells).length c ∧ Ows w.heap.size w' 29 2 (.slice a ((rowH A r).map It.cells).length c) ((rowH A r).map It.cells)) := by
  refine FC.introM Try.func73 rfl Try.ntmps73 rfl ?_
  have S := Sub.refl w
  refine RC.seq ?_
  refine RC.region rfl ?_
  refine RL.box rfl rfl rfl (fun b_2 w_2 e_2 z_2 hb_2 s_2 => ?_)
  have ge_2 := S.le e_2
  have S := S.trans s_2
  refine RL.ev (.assign rfl) rfl rfl ?_
  refine RL.nil (RC.back ?_)
  refine RC.seq ?_
  refine RC.seq ?_
  refine RC.region rfl ?_
  refine RL.ev (.move rfl) rfl rfl ?_
  refine RL.nil (RC.back ?_)
  refine RC.range (cs := [_, _]) rfl ok74 ?_
  intro rL W1 hst hpe hps hasg hbd hk1 s1 z1 hL hD
  obtain ⟨b_D, eD⟩ : ∃ D, D = w_2.heap.size := ⟨_, rfl⟩
  rw [← eD] at hk1 z1 hL hD ⊢
  obtain ⟨b_l, el⟩ : ∃ l, l = b_D + 1 := ⟨_, rfl⟩
  rw [← el] at hk1 hL ⊢
  have n_D_l : b_D ≠ b_l := by omega
  have ge_D : _ ≤ b_D := Nat.le_trans S.size (by omega)
  have ge_l : _ ≤ b_l := Nat.le_trans S.size (by omega)
  have nb_2_b_D : b_2 ≠ b_D := fun e => by have := hb_2.lt; omega
  have nb_2_b_l : b_2 ≠ b_l := fun e => by have := hb_2.lt; omega
  have S := S.trans s1
  have hb_2 := hb_2.sub s1
  rw [recB_0 (id := 0) hst hpe] at hL
  have hY : YT Try.prog b_l It.val It.ok List.length 200 (HCol b_l rL b_2 w.heap.size) (stCol) := by
    intro s x C W hx hcn hH
    obtain ⟨v, ⟨hL, hb_2, o⟩, hob, hC⟩ := hH.now
    have szB : w.heap.size ≤ W.heap.size := (by have := hL.lt; omega)
    have G : Agr (fun k => k = b_l ∨ k = b_2 ∨ ob v = some k) W W := Agr.refl _ _
    refine FY.intro (m := 13) (F := upd _ (some 7) x.val) [0] hL rfl (by show 1 = rL.params.size; rw [hps]; rfl) (knows1 hps hk1 rfl) ?_
    show RC _ _ rL.assign _ _ _
    rw [hasg]
    refine RC.region rfl ?_
    refine RL.alloc ze29 rfl rfl (fun b_5 w_5 e_5 z_5 hb_5 s_5 => ?_)
    have n_l__5 := hL.ne e_5
    have n_2__5 := hb_2.ne e_5
    have d_o_b_5 := o.neNew e_5
    have hL := hL.sub s_5
    have hb_2 := hb_2.sub s_5
    have o := o.sub s_5
    have geG_5 := agLe G e_5
    have G := G.trans s_5.agr
    have szB := Nat.le_trans szB s_5.size
    refine RL.store sh29 rfl rfl rfl hb_5 (by exact Nat.le_of_ble_eq_true rfl) (by rfl) rfl (fun w1 z1 hb_5 a1 => ?_)
    have hL := hL.upd a1 n_l__5
    have hb_2 := hb_2.upd a1 n_2__5
    have o := o.updD a1 d_o_b_5
    have G := agNew G a1 geG_5
    have szB := Nat.le_trans szB a1.size
    have hb_5 : Has w1 b_5 (x.cells) _ := hb_5.now (by kernel_rfl)
    refine RL.nil (RC.begin hL ?_)
    intro w2 a2 z2 hL
    have hb_2 := hb_2.step a2 (fun e => nb_2_b_l e)
    have o := o.step a2 (fun k hk e => (fun k hk => (hob k hk).1) k hk e)
    have G := G.trans (a2.mono fun k _ e => .inl e)
    have szB := Nat.le_trans szB a2.size
    have hb_5 := hb_5.step a2 (fun e => n_l__5.symm e)
    show RC _ _ rL.body _ _ _
    rw [hbd]
    refine RC.block ?_
    refine RC.region rfl ?_
    refine RL.ev (.load1 sh26 rfl (hb_2.cell rfl)) rfl rfl ?_
    refine RL.ev (.loadR (x.cells) sh29 rfl hb_5.row rfl) rfl rfl ?_
    refine RL.buildSlice1 sl26 _ ze29 rfl rfl rfl rfl rfl rfl rfl (fun b_10 w_10 e_10 z_10 hb_10 s_10 => ?_)
    have n_2__10 := hb_2.ne e_10
    have n_5__10 := hb_5.ne e_10
    have n_l__10 := hL.ne e_10
    have d_o_b_10 := o.neNew e_10
    have hb_2 := hb_2.sub s_10
    have o := o.sub s_10
    have geG_10 := agLe G e_10
    have G := G.trans s_10.agr
    have szB := Nat.le_trans szB s_10.size
    have hb_5 := hb_5.sub s_10
    have hL := hL.sub s_10
    have ltb_2_11 := hb_2.lt
    have szG_11 := G.size
    have ltb_5_11 := hb_5.lt
    have ltb_l_11 := hL.lt
    have ltb_10_11 := hb_10.lt
    refine RL.append2 (base := w.heap.size) (rows := s.map It.cells) (news := [_]) sl26 ze29 rfl rfl rfl rfl (.inl o) (Has.slOne hb_10) rfl (by intro r hr; rw [List.mem_singleton] at hr; subst hr; rfl) rfl (by (try simp only [List.length_map, List.length_nil, List.length_append, List.length_cons]); omega) (by (try simp only [List.length_map, List.length_nil, List.length_append, List.length_cons]); omega) (by omega) rfl rfl (fun v_11 w_11 hc_11 ho_11 ag_11 ob_11 => ?_)
    have o11 := ho_11 (.inl (by simp))
    rw [show _ ++ [_] = ((s ++ [x]).map It.cells) from by rw [List.map_append]; rfl] at o11
    have d_o11_b_2 := obNe ob_11 (fun k hk => (hob k hk).2) hb_2.lt
    have d_o11_b_5 := obNe ob_11 d_o_b_5 hb_5.lt
    have d_o11_b_l := obNe ob_11 (fun k hk => (hob k hk).1) hL.lt
    have hb_2 := hb_2.step ag_11 (fun e => (fun k hk => (hob k hk).2) _ e.1 rfl)
    have G := G.trans (ag_11.mono fun k _ e => .inr (.inr e.1))
    have szB := Nat.le_trans szB ag_11.size
    have hb_5 := hb_5.step ag_11 (fun e => d_o_b_5 _ e.1 rfl)
    have hL := hL.step ag_11 (fun e => (fun k hk => (hob k hk).1) _ e.1 rfl)
    obtain ⟨a_11, c_11, rfl, k_11⟩ := o11.form
    refine RL.store sh26 rfl rfl rfl hb_2 (by exact Nat.le_of_ble_eq_true rfl) (by rfl) rfl (fun w3 z3 hb_2 a3 => ?_)
    have G := G.trans (a3.mono fun k _ e => .inr (.inl e))
    have szB := Nat.le_trans szB a3.size
    have hb_5 := hb_5.upd a3 n_2__5.symm
    have hL := hL.upd a3 nb_2_b_l.symm
    have o11 := o11.updD a3 d_o11_b_2
    refine RL.nil (RC.endr (j := none) hL ?_)
    intro w4 a4 z4 hL
    have hb_2 := hb_2.step a4 (fun e => nb_2_b_l e)
    have G := G.trans (a4.mono fun k _ e => .inl e)
    have szB := Nat.le_trans szB a4.size
    have hb_5 := hb_5.step a4 (fun e => n_l__5.symm e)
    have o11 := o11.step a4 (fun k hk e => d_o11_b_l k hk e)
    -- round end 1
    refine ⟨_, rfl, HCol.ft (fun _ => Iff.rfl) hL hb_2 o11 (fun k hk => ⟨d_o11_b_l k hk, d_o11_b_2 k hk⟩), G.mono fun k _ e => (hC k).2 e, fun k hk => ?_⟩
    rcases hk with e | e | e
    · exact .inl ((hC k).2 (.inl e))
    · exact .inl ((hC k).2 (.inr (.inl e)))
    · rcases ob_11 with h | ⟨c, h, h3⟩
      · exact .inl ((hC k).2 (.inr (.inr (h ▸ e))))
      · rw [h] at e; cases e; exact .inr (Nat.le_trans szG_11 h3)
  refine FC.mono (c_wleaves1 b_l _ _ _ _ stCol_cnt hY A na fa nc fc r hr L hTT [] (fun k => k = b_l ∨ k = b_2 ∨ ob (.slice none 0 0) = some k) (· < w.heap.size) bA bR W1 (by simpa using hl) ((Ft.of_sub fun u s => hA.sub s).sub S) (fun k hk e => by rcases e with e | e | e <;> first | (cases e; done) | omega) (HCol.ft (fun _ => Iff.rfl) hL hb_2 (Ows.nil _ _ _ _) (fun k e => by cases e)) ((hbA.sub S)) ((hbR.sub S))) ?_
  rintro _ W2 ⟨C2, hH, ag, up⟩
  rw [push_col] at hH
  obtain ⟨v, ⟨hL, hb_2, o⟩, hob, hC⟩ := hH.now
  have hDC : ¬ (b_D = b_l ∨ b_D = b_2 ∨ ob (.slice none 0 0) = some b_D) := (fun e => by rcases e with e | e | e <;> first | (cases e; done) | omega)
  have S := S.agrN ag (fun k e => by rcases e with e | e | e <;> first | (cases e; done) | omega)
  have hDn : ¬ C2 b_D := up.not hD.lt hDC
  have hD := hD.step ag hDC
  have hoD : ∀ k, ob v = some k → k ≠ b_D := fun k hk e => hDn (e ▸ (hC k).2 (.inr (.inr hk)))
  obtain ⟨a1, c1, rfl, _⟩ := o.form
  refine ⟨_, hL, recB_nb, fun W3 a3 z3 => .inl ⟨recB_pe, RC.backM ?_⟩⟩
  have S := S.agrN a3 (fun k e => e ▸ ge_l)
  have o := o.step a3 (fun k hk e => (fun k hk => (hob k hk).1) k hk e)
  have hb_2 := hb_2.step a3 (fun e => nb_2_b_l e)
  have hD := hD.step a3 (fun e => n_D_l e)
  refine RC.seq ?_
  refine RC.region rfl ?_
  refine RL.ev (.load1 sh26 rfl (hb_2.cell rfl)) rfl rfl ?_
  refine RL.ev (.assign rfl) rfl rfl ?_
  refine RL.nil (RC.back ?_)
  refine RC.doneM (rs := [.tmp 4]) (vs := [_]) rfl rfl (fun _ => ⟨rfl, trivial⟩) hD (fun w5 a5 z5 => ?_)
  have S := S.agrN a5 (fun k e => e ▸ ge_D)
  have o := o.step a5 (fun k hk e => hoD k hk e)
  have hb_2 := hb_2.step a5 (fun e => nb_2_b_D e)
  -- end 1
  exact ⟨S, a1, c1, rfl, o⟩
theorem c_collect (A : Ar) (na fa : Option Addr) (nc fc : Nat) (r : Int) (hr : U64 r) (L : List It) (hL : IsH A 10 r L) (hl : L.length ≤ 200) (bA bR : Nat) (w : World) (hA : ArR w na fa A) (hbA : Has w bA [.slice na A.nodes.length nc, .slice fa A.free.length fc] 34) (hbR : Has w bR [.int .u64 r] 36) :
    FC Try.prog 48 [.func (.func 74) #[] #[.pointer (some ⟨bA, 0, none⟩), .pointer (some ⟨bR, 0, none⟩)]] w (fun v w' => Sub w w' ∧ ∃ a c, v = .slice a ((rowH A r).map It.cells).length c ∧ Ows w.heap.size w' 29 2 (.slice a ((rowH A r).map It.cells).length c) ((rowH A r).map It.cells)) := by
  refine FC.intro Try.func48 rfl Try.ntmps48 rfl ?_
  have S := Sub.refl w
  refine RC.seq ?_
  refine RC.region rfl ?_
  refine RL.ev (.assign rfl) rfl rfl ?_
  refine RL.nil (RC.back ?_)
  refine RC.seq ?_
  refine RC.region rfl ?_
  refine RL.ev (.move rfl) rfl rfl ?_
  refine RL.call rfl ok73 (c_appendSeq A na fa nc fc r hr L hL hl bA bR w (hA.sub S) (hbA.sub S) (hbR.sub S)) rfl rfl ?_
  rintro _ w1 ⟨s2, a1, c1, rfl, o⟩
  have o := o.low S.size
  have S := S.trans s2
  refine RL.ev (.assign rfl) rfl rfl ?_
  refine RL.nil (RC.back ?_)
  refine RC.done (rs := [.tmp 2]) (vs := [_]) rfl rfl ⟨rfl, trivial⟩ ?_
  -- end 1
  exact ⟨S, a1, c1, rfl, o⟩
theorem c_wAll (A : Ar) (na fa : Option Addr) (nc fc : Nat) (hnc : A.nodes.length ≤ nc) (hfc : A.free.length ≤ fc) (r : Int) (hr : U64 r) (w : World) (hA : ArR w na fa A) :
    FC Try.prog 21 [arV na fa nc fc A, .int .u64 r] w (fun v w' => Sub w w' ∧ ∃ a c rows e, v = .tuple #[.slice a rows.length c, .int .i64 e] ∧ Sl w' a 2 (rows.map It.cells) ∧ (¬ isTab A r → rows = [] ∧ e = 1) ∧ (isTab A r → rows = rowH A r ∧ e = 0)) := by
  have hNd := hA.nodes
  have hFr := hA.free
  refine FC.intro Try.func21 rfl Try.ntmps21 rfl ?_
  have S := Sub.refl w
  refine RC.seq ?_
  refine RC.region rfl ?_
  refine RL.box rfl rfl rfl (fun b_2 w_2 e_2 z_2 hb_2 s_2 => ?_)
  have ge_2 := S.le e_2
  have S := S.trans s_2
  have hb_2 : Has w_2 b_2 ([.slice na A.nodes.length nc, .slice fa A.free.length fc]) _ := hb_2
  refine RL.ev (.assign rfl) rfl rfl ?_
  refine RL.ev (.assign rfl) rfl rfl ?_
  refine RL.nil (RC.back ?_)
  refine RC.seq ?_
  refine RC.seq ?_
  refine RC.region rfl ?_
  refine RL.ev (.loadR ([.slice na A.nodes.length nc, .slice fa A.free.length fc]) sh34 rfl hb_2.row rfl) rfl rfl ?_
  refine RL.ev (.move rfl) rfl rfl ?_
  refine RL.call rfl ok42 (c_hRight A na fa nc fc hnc hfc r hr w_2 (hA.sub S)) rfl rfl ?_
  rintro _ w1 ⟨rfl, s2⟩
  have S := S.trans s2
  have hb_2 := hb_2.sub s2
  refine RL.ev (.not rfl) rfl rfl ?_
  refine RL.nil (RC.back ?_)
  refine RC.cond rfl (fun h3 => ?_) (fun h3 => ?_)
  ·
    have hno : ¬ isTab A r := (fun h => by have h2 := h3; rw [isTabB_yes h] at h2; cases h2)
    refine RC.seq ?_
    refine RC.region rfl ?_
    refine RL.ev (.assign rfl) rfl rfl ?_
    refine RL.ev (.assign rfl) rfl rfl ?_
    refine RL.nil (RC.back ?_)
    refine RC.done (rs := [.tmp 4, .tmp 5]) (vs := [_, _]) rfl rfl ⟨rfl, rfl, trivial⟩ ?_
    -- end 1
    exact ⟨S, none, 0, [], 1, rfl, Sl.nil _ _ _, fun _ => ⟨rfl, rfl⟩, fun h => absurd h hno⟩
  ·
    have hyes : isTab A r := (isTabB_iff A r).1 (by simpa using h3)
    obtain ⟨_, L, hT, hap, hl⟩ := id hyes
    refine RC.skip (RC.back ?_)
    refine RC.seq ?_
    refine RC.region rfl ?_
    refine RL.ev (.loadR ([.slice na A.nodes.length nc, .slice fa A.free.length fc]) sh34 rfl hb_2.row rfl) rfl rfl ?_
    refine RL.ev (.move rfl) rfl rfl ?_
    refine RL.call rfl ok49 (c_wleaves A na fa nc fc r w1) rfl rfl ?_
    rintro _ w4 ⟨bA, bR, rfl, hbA, hbR, s5⟩
    have S := S.trans s5
    have hb_2 := hb_2.sub s5
    refine RL.call rfl ok48 (c_collect A na fa nc fc r hr L hT hl bA bR w4 (hA.sub S) hbA hbR) rfl rfl ?_
    rintro _ w6 ⟨s7, a1, c1, rfl, o⟩
    have S := S.trans s7
    have hb_2 := hb_2.sub s7
    refine RL.ev (.assign rfl) rfl rfl ?_
    refine RL.ev (.assign rfl) rfl rfl ?_
    refine RL.nil (RC.back ?_)
    refine RC.done (rs := [.tmp 4, .tmp 5]) (vs := [_, _]) rfl rfl ⟨rfl, rfl, trivial⟩ ?_
    -- end 2
    exact ⟨S, a1, c1, rowH A r, 0, by rw [List.length_map]; rfl, o.sl.1, fun h => absurd hyes h, fun _ => ⟨rfl, rfl⟩⟩
end Go.Proofs.Ytbfjobmebkhblaa
set_option linter.unusedVariables false
set_option linter.unusedSimpArgs false
namespace Go.Proofs.Ytbfjobmebkhblaa
open Go Go.XL
section
variable {P : Program} {n : Cx} {F : List (Nat × Value)} {w : World} {p : Post}
/-- the end of a function that holds ranges, whose results lie in cells -/
theorem retMC {fn : Func} {D : Nat} {R : Value → World → Prop} {rs : List ResultVar} {vs : List Value} (hrs : fn.results = rs.toArray) (hp : p.ret = (Post.fnM P fn R).ret) (hD : Df D w) (hv : ∀ w', Agr (· = D) w w' → w'.heap.size = w.heap.size → resVs P F w' rs vs ∧ R (tup vs) w') (hM : n.marks = [markD D] := by rfl) : ∀ a, Knows n F a → p.ret a w := fun a k => by
  rw [hp]
  refine ⟨.inr ⟨D, k.defers.trans hM, hD⟩, ?_⟩
  rintro w' (⟨_, h⟩ | ⟨D', h, e⟩)
  · rw [k.defers.trans hM] at h; cases h
  · rw [k.defers.trans hM] at h
    obtain rfl : D = D' := by
      have := (List.cons.inj h).1
      simp only [markD, Deferred.mk.injEq, Target.collected.injEq] at this
      exact this.1
    subst e
    have h2 := hv (w.putObj D (.deferred none)) agr_put (by simp)
    exact ⟨_, run_results k hrs h2.1, h2.2⟩
theorem RC.doneMC {fn : Func} {D : Nat} {R : Value → World → Prop} {rs : List ResultVar} {vs : List Value} (hrs : fn.results = rs.toArray) (hp : p.ret = (Post.fnM P fn R).ret) (hD : Df D w) (hv : ∀ w', Agr (· = D) w w' → w'.heap.size = w.heap.size → resVs P F w' rs vs ∧ R (tup vs) w') (hM : n.marks = [markD D] := by rfl) : RC P n .ret F w p := RC.ret (retMC hrs hp hD hv hM)
end
/-- how the record stands, where the body may return: b = the loop goes on -/
def recT (r : Loop) (b : Bool) : Loop := { r with state := if b then .ready else .done, pending := if b then none else some .ret }
theorem recT_nb {r : Loop} {b : Bool} : (recT r b).state ≠ .busy := by cases b <;> simp [recT]
theorem recT_pe {r : Loop} {id : Nat} : (recT r true).pending = none ∨ (recT r true).pending = some (.exit id) := .inl rfl
def stFst (p : It → Bool) (s : Option It) (x : It) : Option It × Bool := if p x = true then (some x, false) else (s, true)
theorem push_fst (p : It → Bool) : ∀ l : List It, pushF (stFst p) none l = (l.find? p, (l.find? p).isNone)
  | [] => rfl
  | x :: l => by
    by_cases h : p x = true
    · rw [pushF_f (by rw [stFst, if_pos h]), List.find?_cons_of_pos h, stFst, if_pos h]; rfl
    · rw [pushF_t (by rw [stFst, if_neg h]), List.find?_cons_of_neg h, stFst, if_neg h, push_fst p l]
theorem stFst_cnt (p : It → Bool) (s : Option It) (x : It) : (fun _ : Option It => 0) (stFst p s x).1 ≤ (fun _ : Option It => 0) s + 1 := Nat.zero_le _
def itOf (s : Option It) : It := s.getD ⟨0, 0⟩
/-- how the boxes stand between two rounds -/
def HFst (l : Nat) (rL : Loop) (b5 b6 b7 : Nat) (g : FuncId) (cs : List Value) (MK : Nat → Prop) (K : World → Prop) (s : Option It) (b : Bool) (C : Nat → Prop) (W : World) : Prop :=
  (Lp l (recT rL b) W ∧ Has W b5 [.func (.func g) #[] cs.toArray] 83 ∧ Has W b6 (itOf s).cells 29 ∧ Has W b7 [.int .i64 0] 39 ∧ Ft MK K W) ∧ ∀ k, C k ↔ (k = l ∨ k = b6 ∨ k = b7) ∨ (k = b5 ∨ MK k)
theorem HFst.ft {l : Nat} {rL : Loop} {b5 b6 b7 : Nat} {g : FuncId} {cs : List Value} {MK : Nat → Prop} {K : World → Prop} {s : Option It} {b : Bool} {C : Nat → Prop} {W : World} (hC : ∀ k, C k ↔ (k = l ∨ k = b6 ∨ k = b7) ∨ (k = b5 ∨ MK k))
    (h1 : Lp l (recT rL b) W) (h5 : Has W b5 [.func (.func g) #[] cs.toArray] 83) (h6 : Has W b6 (itOf s).cells 29) (h7 : Has W b7 [.int .i64 0] 39) (hK : Ft MK K W) :
    Ft C (HFst l rL b5 b6 b7 g cs MK K s b C) W := by
  refine ⟨fun k hk => ?_, fun u a => ⟨⟨h1.step a (fun hn => hn ((hC _).2 (.inl (.inl rfl)))), h5.step a (fun hn => hn ((hC _).2 (.inr (.inl rfl)))), h6.step a (fun hn => hn ((hC _).2 (.inl (.inr (.inl rfl))))), h7.step a (fun hn => hn ((hC _).2 (.inl (.inr (.inr rfl))))), hK.step a (fun k hk hn => hn ((hC _).2 (.inr (.inr hk))))⟩, hC⟩⟩
  rcases (hC k).1 hk with (rfl | rfl | rfl) | (rfl | h)
  · exact h1.lt
  · exact h6.lt
  · exact h7.lt
  · exact h5.lt
  · exact hK.lt k h
theorem agrPin {C D MK : Nat → Prop} {K : World → Prop} {w w' : World} (a : Agr C w w') (hC : ∀ k, C k → D k ∨ MK k) (hpin : ∀ u u', K u → K u' → ∀ k, MK k → u'.heap[k]? = u.heap[k]?) (h : K w) (h' : K w') : Agr D w w' :=
  ⟨a.os, a.tape, a.output, a.size, fun k hk hn => by
    by_cases hm : MK k
    · exact hpin _ _ h h' k hm
    · exact a.block k hk (fun hc => (hC k hc).elim hn hm)⟩
theorem c_wfirst (A : Ar) (na fa : Option Addr) (nc fc : Nat) (hnc : A.nodes.length ≤ nc) (hfc : A.free.length ≤ fc) (r : Int) (hr : U64 r) (g : FuncId) (hg : calleeOK Try.prog g = true) (cs : List Value) (p : It → Bool) (M MK : Nat → Prop) (K : World → Prop) (w : World) (hA : Ft M (fun u => ArR u na fa A) w) (hK : Ft MK K w) (hMK : ∀ k, M k → ¬ MK k) (hpin : ∀ u u', K u → K u' → ∀ k, MK k → u'.heap[k]? = u.heap[k]?)
    (hp : ∀ (x : It) (u : World), x.ok → K u → FC Try.prog g ([x.val] ++ cs) u (Val (.bool (p x)) u)) :
    FC Try.prog 46 [arV na fa nc fc A, .int .u64 r, .func (.func g) #[] cs.toArray] w (fun v w' => Sub w w' ∧ ∃ x e, v = .tuple #[x.val, .int .i64 e] ∧ (¬ isTab A r → x = ⟨0, 0⟩ ∧ e = 1) ∧ (isTab A r → (∃ y, (rowH A r).find? p = some y ∧ x = y ∧ e = 0) ∨ ((rowH A r).find? p = none ∧ x = ⟨0, 0⟩ ∧ e = 3))) := by
  have hNd := hA.now.nodes
  have hFr := hA.now.free
  refine FC.introM Try.func46 rfl Try.ntmps46 rfl ?_
  have S := Sub.refl w
  refine RC.seq ?_
  refine RC.region rfl ?_
  refine RL.box rfl rfl rfl (fun b_3 w_3 e_3 z_3 hb_3 s_3 => ?_)
  have ge_3 := S.le e_3
  have d_hK_b_3 := hK.neNew e_3
  have d_hA_b_3 := hA.neNew e_3
  have S := S.trans s_3
  have hK := hK.sub s_3
  have hA := hA.sub s_3
  have hb_3 : Has w_3 b_3 ([.slice na A.nodes.length nc, .slice fa A.free.length fc]) _ := hb_3
  refine RL.box rfl rfl rfl (fun b_5 w_5 e_5 z_5 hb_5 s_5 => ?_)
  have ge_5 := S.le e_5
  have n_3__5 := hb_3.ne e_5
  have d_hK_b_5 := hK.neNew e_5
  have d_hA_b_5 := hA.neNew e_5
  have S := S.trans s_5
  have hK := hK.sub s_5
  have hA := hA.sub s_5
  have hb_3 := hb_3.sub s_5
  refine RL.alloc ze29 rfl rfl (fun b_6 w_6 e_6 z_6 hb_6 s_6 => ?_)
  have ge_6 := S.le e_6
  have n_3__6 := hb_3.ne e_6
  have n_5__6 := hb_5.ne e_6
  have d_hK_b_6 := hK.neNew e_6
  have d_hA_b_6 := hA.neNew e_6
  have S := S.trans s_6
  have hK := hK.sub s_6
  have hA := hA.sub s_6
  have hb_3 := hb_3.sub s_6
  have hb_5 := hb_5.sub s_6
  refine RL.alloc ze39 rfl rfl (fun b_7 w_7 e_7 z_7 hb_7 s_7 => ?_)
  have ge_7 := S.le e_7
  have n_3__7 := hb_3.ne e_7
  have n_5__7 := hb_5.ne e_7
  have n_6__7 := hb_6.ne e_7
  have d_hK_b_7 := hK.neNew e_7
  have d_hA_b_7 := hA.neNew e_7
  have S := S.trans s_7
  have hK := hK.sub s_7
  have hA := hA.sub s_7
  have hb_3 := hb_3.sub s_7
  have hb_5 := hb_5.sub s_7
  have hb_6 := hb_6.sub s_7
  refine RL.nil (RC.back ?_)
  refine RC.seq ?_
  refine RC.seq ?_
  refine RC.region rfl ?_
  refine RL.ev (.loadR ([.slice na A.nodes.length nc, .slice fa A.free.length fc]) sh34 rfl hb_3.row rfl) rfl rfl ?_
  refine RL.ev (.move rfl) rfl rfl ?_
  refine RL.call rfl ok42 (c_hRight A na fa nc fc hnc hfc r hr w_7 hA.now) rfl rfl ?_
  rintro _ w1 ⟨rfl, s2⟩
  have S := S.trans s2
  have hK := hK.sub s2
  have hA := hA.sub s2
  have hb_3 := hb_3.sub s2
  have hb_5 := hb_5.sub s2
  have hb_6 := hb_6.sub s2
  have hb_7 := hb_7.sub s2
  refine RL.ev (.not rfl) rfl rfl ?_
  refine RL.nil (RC.back ?_)
  refine RC.cond rfl (fun h3 => ?_) (fun h3 => ?_)
  ·
    have hno : ¬ isTab A r := (fun h => by have h2 := h3; rw [isTabB_yes h] at h2; cases h2)
    refine RC.seq ?_
    refine RC.region rfl ?_
    refine RL.ev (.buildS ze29 pl29 rfl rfl) rfl rfl ?_
    refine RL.store sh29 rfl rfl rfl hb_6 (by exact Nat.le_of_ble_eq_true rfl) (by rfl) rfl (fun w4 z4 hb_6 a4 => ?_)
    have S := S.upd a4 ge_6
    have hK := hK.updD a4 d_hK_b_6
    have hA := hA.updD a4 d_hA_b_6
    have hb_3 := hb_3.upd a4 n_3__6
    have hb_5 := hb_5.upd a4 n_5__6
    have hb_7 := hb_7.upd a4 n_6__7.symm
    have hb_6 : Has w4 b_6 ((⟨0, 0⟩ : It).cells) _ := hb_6.now (by kernel_rfl)
    refine RL.store sh39 rfl rfl rfl hb_7 (by exact Nat.le_of_ble_eq_true rfl) (by rfl) rfl (fun w5 z5 hb_7 a5 => ?_)
    have S := S.upd a5 ge_7
    have hK := hK.updD a5 d_hK_b_7
    have hA := hA.updD a5 d_hA_b_7
    have hb_3 := hb_3.upd a5 n_3__7
    have hb_5 := hb_5.upd a5 n_5__7
    have hb_6 := hb_6.upd a5 n_6__7
    refine RL.nil (RC.back ?_)
    refine RC.doneM0 (rs := [.cell 6 29, .cell 7 39]) (vs := [_, _]) rfl rfl ⟨⟨_, rfl, .inr ⟨(⟨0, 0⟩ : It).cells, sh29, hb_6.row, rfl⟩⟩, ⟨_, rfl, .inl ⟨_, sh39, (hb_7.cell rfl)⟩⟩, trivial⟩ ?_
    -- end 1
    exact ⟨S, ⟨0, 0⟩, 1, rfl, fun _ => ⟨rfl, rfl⟩, fun h => absurd h hno⟩
  ·
    have hyes : isTab A r := (isTabB_iff A r).1 (by simpa using h3)
    obtain ⟨_, L, hT, hap, hl⟩ := id hyes
    refine RC.skip (RC.back ?_)
    refine RC.seq ?_
    refine RC.seq ?_
    refine RC.region rfl ?_
    refine RL.ev (.loadR ([.slice na A.nodes.length nc, .slice fa A.free.length fc]) sh34 rfl hb_3.row rfl) rfl rfl ?_
    refine RL.ev (.move rfl) rfl rfl ?_
    refine RL.call rfl ok49 (c_wleaves A na fa nc fc r w1) rfl rfl ?_
    rintro _ w6 ⟨bA, bR, rfl, hbA, hbR, s7⟩
    have S := S.trans s7
    have hK := hK.sub s7
    have hA := hA.sub s7
    have hb_3 := hb_3.sub s7
    have hb_5 := hb_5.sub s7
    have hb_6 := hb_6.sub s7
    have hb_7 := hb_7.sub s7
    obtain ⟨E, hE⟩ : ∃ E, E = w6.heap.size := ⟨_, rfl⟩
    refine RL.nil (RC.back ?_)
    refine RC.range (cs := [_, _]) rfl ok74 ?_
    intro rL W1 hst hpe hps hasg hbd hk1 s1 z1 hL hD
    obtain ⟨b_D, eD⟩ : ∃ D, D = w6.heap.size := ⟨_, rfl⟩
    rw [← eD] at hk1 z1 hL hD ⊢
    obtain ⟨b_l, el⟩ : ∃ l, l = b_D + 1 := ⟨_, rfl⟩
    rw [← el] at hk1 hL ⊢
    have n_D_l : b_D ≠ b_l := by omega
    have ge_D : _ ≤ b_D := Nat.le_trans S.size (by omega)
    have ge_l : _ ≤ b_l := Nat.le_trans S.size (by omega)
    have d_hK_b_D : ∀ k, _ → k ≠ b_D := fun k hk e => by have := (hK.ge k hk).2; omega
    have d_hK_b_l : ∀ k, _ → k ≠ b_l := fun k hk e => by have := (hK.ge k hk).2; omega
    have d_hA_b_D : ∀ k, _ → k ≠ b_D := fun k hk e => by have := (hA.ge k hk).2; omega
    have d_hA_b_l : ∀ k, _ → k ≠ b_l := fun k hk e => by have := (hA.ge k hk).2; omega
    have nb_3_b_D : b_3 ≠ b_D := fun e => by have := hb_3.lt; omega
    have nb_3_b_l : b_3 ≠ b_l := fun e => by have := hb_3.lt; omega
    have nb_5_b_D : b_5 ≠ b_D := fun e => by have := hb_5.lt; omega
    have nb_5_b_l : b_5 ≠ b_l := fun e => by have := hb_5.lt; omega
    have nb_6_b_D : b_6 ≠ b_D := fun e => by have := hb_6.lt; omega
    have nb_6_b_l : b_6 ≠ b_l := fun e => by have := hb_6.lt; omega
    have nb_7_b_D : b_7 ≠ b_D := fun e => by have := hb_7.lt; omega
    have nb_7_b_l : b_7 ≠ b_l := fun e => by have := hb_7.lt; omega
    have nbA_b_D : bA ≠ b_D := fun e => by have := hbA.lt; omega
    have nbA_b_l : bA ≠ b_l := fun e => by have := hbA.lt; omega
    have nbR_b_D : bR ≠ b_D := fun e => by have := hbR.lt; omega
    have nbR_b_l : bR ≠ b_l := fun e => by have := hbR.lt; omega
    have S := S.trans s1
    have hK := hK.sub s1
    have hA := hA.sub s1
    have hb_3 := hb_3.sub s1
    have hb_5 := hb_5.sub s1
    have hb_6 := hb_6.sub s1
    have hb_7 := hb_7.sub s1
    have hbA := hbA.sub s1
    have hbR := hbR.sub s1
    rw [recB_0 (id := 0) hst hpe] at hL
    have hY : YT Try.prog b_l It.val It.ok (fun _ => 0) 200 (HFst b_l rL b_5 b_6 b_7 g cs MK K) (stFst p) := by
      intro s x C W hx hcn hH
      obtain ⟨⟨hL, hb_5, hb_6, hb_7, hK⟩, hC⟩ := hH.now
      have G : Agr (fun k => k = b_l ∨ k = b_6 ∨ k = b_7) W W := Agr.refl _ _
      refine FY.intro (m := 23) (F := upd _ (some 17) x.val) [0] hL rfl (by show 1 = rL.params.size; rw [hps]; rfl) (knows1 hps hk1 rfl) ?_
      show RC _ _ rL.assign _ _ _
      rw [hasg]
      refine RC.region rfl ?_
      refine RL.alloc ze29 rfl rfl (fun b_8 w_8 e_8 z_8 hb_8 s_8 => ?_)
      have n_l__8 := hL.ne e_8
      have n_5__8 := hb_5.ne e_8
      have n_6__8 := hb_6.ne e_8
      have n_7__8 := hb_7.ne e_8
      have d_hK_b_8 := hK.neNew e_8
      have hL := hL.sub s_8
      have hb_5 := hb_5.sub s_8
      have hb_6 := hb_6.sub s_8
      have hb_7 := hb_7.sub s_8
      have hK := hK.sub s_8
      have geG_8 := agLe G e_8
      have G := G.trans s_8.agr
      refine RL.store sh29 rfl rfl rfl hb_8 (by exact Nat.le_of_ble_eq_true rfl) (by rfl) rfl (fun w8 z8 hb_8 a8 => ?_)
      have hL := hL.upd a8 n_l__8
      have hb_5 := hb_5.upd a8 n_5__8
      have hb_6 := hb_6.upd a8 n_6__8
      have hb_7 := hb_7.upd a8 n_7__8
      have hK := hK.updD a8 d_hK_b_8
      have G := agNew G a8 geG_8
      have hb_8 : Has w8 b_8 (x.cells) _ := hb_8.now (by kernel_rfl)
      refine RL.nil (RC.begin hL ?_)
      intro w9 a9 z9 hL
      have hb_5 := hb_5.step a9 (fun e => nb_5_b_l e)
      have hb_6 := hb_6.step a9 (fun e => nb_6_b_l e)
      have hb_7 := hb_7.step a9 (fun e => nb_7_b_l e)
      have hK := hK.step a9 (fun k hk e => d_hK_b_l k hk e)
      have G := G.trans (a9.mono fun k _ e => .inl e)
      have hb_8 := hb_8.step a9 (fun e => n_l__8.symm e)
      show RC _ _ rL.body _ _ _
      rw [hbd]
      refine RC.block ?_
      refine RC.seq ?_
      refine RC.region rfl ?_
      refine RL.ev (.load1 sh83 rfl (hb_5.cell rfl)) rfl rfl ?_
      refine RL.ev (.loadR (x.cells) sh29 rfl hb_8.row rfl) rfl rfl ?_
      refine RL.callv rfl rfl (us := []) (cs := cs) hg (hp x w9 hx hK.now) rfl rfl ?_
      rintro _ w10 ⟨rfl, s11⟩
      have hb_5 := hb_5.sub s11
      have hb_6 := hb_6.sub s11
      have hb_7 := hb_7.sub s11
      have hK := hK.sub s11
      have G := G.trans s11.agr
      have hb_8 := hb_8.sub s11
      have hL := hL.sub s11
      refine RL.nil (RC.back ?_)
      refine RC.cond rfl (fun h12 => ?_) (fun h12 => ?_)
      ·
        have q1 := h12
        refine RC.seq ?_
        refine RC.region rfl ?_
        refine RL.ev (.loadR (x.cells) sh29 rfl hb_8.row rfl) rfl rfl ?_
        refine RL.store sh29 rfl rfl rfl hb_6 (by exact Nat.le_of_ble_eq_true rfl) (by rfl) rfl (fun w13 z13 hb_6 a13 => ?_)
        have hb_5 := hb_5.upd a13 n_5__6
        have hb_7 := hb_7.upd a13 n_6__7.symm
        have hK := hK.updD a13 d_hK_b_6
        have G := G.trans (a13.mono fun k _ e => .inr (.inl e))
        have hb_8 := hb_8.upd a13 n_6__8.symm
        have hL := hL.upd a13 nb_6_b_l.symm
        have hb_6 : Has w13 b_6 (x.cells) _ := hb_6.now (by kernel_rfl)
        refine RL.store sh39 rfl rfl rfl hb_7 (by exact Nat.le_of_ble_eq_true rfl) (by rfl) rfl (fun w14 z14 hb_7 a14 => ?_)
        have hb_5 := hb_5.upd a14 n_5__7
        have hb_6 := hb_6.upd a14 n_6__7
        have hK := hK.updD a14 d_hK_b_7
        have G := G.trans (a14.mono fun k _ e => .inr (.inr (e)))
        have hb_8 := hb_8.upd a14 n_7__8.symm
        have hL := hL.upd a14 nb_7_b_l.symm
        have hb_7 : Has w14 b_7 ([.int .i64 0]) _ := hb_7
        refine RL.nil (RC.back ?_)
        refine RC.ret (RC.endr (j := some .ret) hL ?_)
        intro w15 a15 z15 hL
        have hb_5 := hb_5.step a15 (fun e => nb_5_b_l e)
        have hb_6 := hb_6.step a15 (fun e => nb_6_b_l e)
        have hb_7 := hb_7.step a15 (fun e => nb_7_b_l e)
        have hK := hK.step a15 (fun k hk e => d_hK_b_l k hk e)
        have G := G.trans (a15.mono fun k _ e => .inl e)
        have hb_8 := hb_8.step a15 (fun e => n_l__8.symm e)
        -- round end 1
        rw [show stFst p s x = (some x, false) from if_pos q1]
        exact ⟨C, rfl, HFst.ft hC hL hb_5 hb_6 hb_7 hK, G.mono fun k _ e => (hC k).2 (.inl e), Up.refl _ _⟩
      ·
        have q1 := h12
        refine RC.skip (RC.endr (j := none) hL ?_)
        intro w16 a16 z16 hL
        have hb_5 := hb_5.step a16 (fun e => nb_5_b_l e)
        have hb_6 := hb_6.step a16 (fun e => nb_6_b_l e)
        have hb_7 := hb_7.step a16 (fun e => nb_7_b_l e)
        have hK := hK.step a16 (fun k hk e => d_hK_b_l k hk e)
        have G := G.trans (a16.mono fun k _ e => .inl e)
        have hb_8 := hb_8.step a16 (fun e => n_l__8.symm e)
        -- round end 2
        rw [show stFst p s x = (s, true) from by rw [stFst, if_neg (by simp [q1])]]
        exact ⟨C, rfl, HFst.ft hC hL hb_5 hb_6 hb_7 hK, G.mono fun k _ e => (hC k).2 (.inl e), Up.refl _ _⟩
    refine FC.mono (c_wleaves1 b_l _ _ _ _ (stFst_cnt p) hY A na fa nc fc r hr L hT none (fun k => (k = b_l ∨ k = b_6 ∨ k = b_7) ∨ (k = b_5 ∨ MK k)) M bA bR W1 (by show 0 + L.length ≤ 200; omega) hA (fun k hk e => by rcases e with (e | e | e) | (e | e); exact d_hA_b_l k hk e; exact d_hA_b_6 k hk e; exact d_hA_b_7 k hk e; exact d_hA_b_5 k hk e; exact hMK k hk e) (HFst.ft (fun _ => Iff.rfl) hL hb_5 hb_6 hb_7 hK) hbA hbR) ?_
    rintro _ W2 ⟨C2, hH, ag, up⟩
    have hK0 := hK.now
    rw [push_fst] at hH
    obtain ⟨⟨hL, hb_5, hb_6, hb_7, hK⟩, hC⟩ := hH.now
    have ag := agrPin (D := fun k => k = b_l ∨ k = b_6 ∨ k = b_7 ∨ k = b_5) ag (fun k e => by rcases e with (e | e | e) | (e | e); exact .inl (.inl e); exact .inl (.inr (.inl e)); exact .inl (.inr (.inr (.inl e))); exact .inl (.inr (.inr (.inr e))); exact .inr e) hpin hK0 hK.now
    have hDC : ¬ (b_D = b_l ∨ b_D = b_6 ∨ b_D = b_7 ∨ b_D = b_5) := (fun e => by rcases e with e | e | e | e <;> omega)
    have S := S.agrN ag (fun k e => by rcases e with e | e | e | e <;> omega)
    have hD := hD.step ag hDC
    obtain ⟨bb, hbb⟩ : ∃ bb, ((rowH A r).find? p).isNone = bb := ⟨_, rfl⟩
    rw [hbb] at hL 
    cases bb
    ·
      obtain ⟨y, hy⟩ : ∃ y, (rowH A r).find? p = some y := (by cases q : (rowH A r).find? p with | none => rw [q] at hbb; cases hbb | some y => exact ⟨y, rfl⟩)
      rw [hy] at hb_6
      have hb_6 : Has W2 b_6 y.cells 29 := hb_6
      refine ⟨_, hL, recT_nb, fun W3 a3 z3 => .inr ⟨rfl, ?_⟩⟩
      have S := S.agrN a3 (fun k e => e ▸ ge_l)
      have hb_6 := hb_6.step a3 (fun e => nb_6_b_l e)
      have hb_7 := hb_7.step a3 (fun e => nb_7_b_l e)
      have hD := hD.step a3 (fun e => n_D_l e)
      refine retMC (rs := [.cell 6 29, .cell 7 39]) (vs := [y.val, .int .i64 0]) rfl rfl hD (fun w17 a17 z17 => ?_)
      have S := S.agrN a17 (fun k e => e ▸ ge_D)
      have hb_6 := hb_6.step a17 (fun e => nb_6_b_D e)
      have hb_7 := hb_7.step a17 (fun e => nb_7_b_D e)
      refine ⟨⟨⟨_, rfl, .inr ⟨y.cells, sh29, hb_6.row, rfl⟩⟩, ⟨_, rfl, .inl ⟨_, sh39, (hb_7.cell rfl)⟩⟩, trivial⟩, ?_⟩
      -- end 2
      exact ⟨S, y, 0, rfl, fun h => absurd hyes h, fun _ => .inl ⟨y, hy, rfl, rfl⟩⟩
    ·
      have hn : (rowH A r).find? p = none := (by cases q : (rowH A r).find? p with | none => rfl | some y => rw [q] at hbb; cases hbb)
      refine ⟨_, hL, recT_nb, fun W3 a3 z3 => .inl ⟨recT_pe, RC.backM ?_⟩⟩
      have S := S.agrN a3 (fun k e => e ▸ ge_l)
      have hb_6 := hb_6.step a3 (fun e => nb_6_b_l e)
      have hb_7 := hb_7.step a3 (fun e => nb_7_b_l e)
      have hD := hD.step a3 (fun e => n_D_l e)
      refine RC.seq ?_
      refine RC.region rfl ?_
      refine RL.ev (.buildS ze29 pl29 rfl rfl) rfl rfl ?_
      refine RL.store sh29 rfl rfl rfl hb_6 (by exact Nat.le_of_ble_eq_true rfl) (by rfl) rfl (fun w18 z18 hb_6 a18 => ?_)
      have S := S.upd a18 ge_6
      have hb_7 := hb_7.upd a18 n_6__7.symm
      have hD := hD.upd a18 nb_6_b_D.symm
      have hb_6 : Has w18 b_6 ((⟨0, 0⟩ : It).cells) _ := hb_6.now (by kernel_rfl)
      refine RL.store sh39 rfl rfl rfl hb_7 (by exact Nat.le_of_ble_eq_true rfl) (by rfl) rfl (fun w19 z19 hb_7 a19 => ?_)
      have S := S.upd a19 ge_7
      have hb_6 := hb_6.upd a19 n_6__7
      have hD := hD.upd a19 nb_7_b_D.symm
      refine RL.nil (RC.back ?_)
      refine RC.doneMC (rs := [.cell 6 29, .cell 7 39]) (vs := [(⟨0, 0⟩ : It).val, .int .i64 3]) rfl rfl hD (fun w20 a20 z20 => ?_)
      have S := S.agrN a20 (fun k e => e ▸ ge_D)
      have hb_6 := hb_6.step a20 (fun e => nb_6_b_D e)
      have hb_7 := hb_7.step a20 (fun e => nb_7_b_D e)
      refine ⟨⟨⟨_, rfl, .inr ⟨(⟨0, 0⟩ : It).cells, sh29, hb_6.row, rfl⟩⟩, ⟨_, rfl, .inl ⟨_, sh39, (hb_7.cell rfl)⟩⟩, trivial⟩, ?_⟩
      -- end 3
      exact ⟨S, ⟨0, 0⟩, 3, rfl, fun h => absurd hyes h, fun _ => .inr ⟨hn, rfl, rfl⟩⟩
end Go.Proofs.Ytbfjobmebkhblaa
set_option linter.unusedVariables false
set_option linter.unusedSimpArgs false
namespace Go.Proofs.Ytbfjobmebkhblaa
open Go Go.XL
/-- which key comes ahead, with so many levels left -/
def lessF (a b : Int) : Nat → Bool
  | 0 => decide (a < b)
  | n + 1 => if dig a (9 - n) = dig b (9 - n) then lessF a b n else decide (dig a (9 - n) < dig b (9 - n))
def lessK (a b : Int) : Bool := lessF a b 10
theorem lessF_irrefl (a : Int) : ∀ n, lessF a a n = false
  | 0 => decide_eq_false (by omega)
  | n + 1 => by rw [lessF, if_pos rfl]; exact lessF_irrefl a n
theorem lessF_trans {a b c : Int} : ∀ n, lessF a b n = true → lessF b c n = true → lessF a c n = true
  | 0, h1, h2 => by
    have h1 := of_decide_eq_true h1
    have h2 := of_decide_eq_true h2
    exact decide_eq_true (by omega)
  | n + 1, h1, h2 => by
    rw [lessF] at h1 h2 ⊢
    by_cases q1 : dig a (9 - n) = dig b (9 - n)
    · rw [if_pos q1] at h1
      by_cases q2 : dig b (9 - n) = dig c (9 - n)
      · rw [if_pos q2] at h2; rw [if_pos (q1.trans q2)]; exact lessF_trans n h1 h2
      · rw [if_neg q2] at h2; rw [if_neg (fun e => q2 (q1.symm.trans e)), q1]; exact h2
    · rw [if_neg q1] at h1
      have h1' := of_decide_eq_true h1
      by_cases q2 : dig b (9 - n) = dig c (9 - n)
      · rw [if_neg (fun e => q1 (e.trans q2.symm)), ← q2]; exact h1
      · rw [if_neg q2] at h2
        have h2' := of_decide_eq_true h2
        rw [if_neg (by omega)]
        exact decide_eq_true (by omega)
theorem lessK_irrefl (a : Int) : lessK a a = false := lessF_irrefl a 10
theorem lessK_trans {a b c : Int} (h1 : lessK a b = true) (h2 : lessK b c = true) : lessK a c = true := lessF_trans 10 h1 h2
/-- a row in that order -/
def Wl (l : List It) : Prop := l.Pairwise fun x y => lessK x.k y.k = true
theorem Wl.ap {l : List It} (h : Wl l) : Ap l := List.Pairwise.imp (fun h e => by rw [e, lessK_irrefl] at h; cases h) h
/-- keys of a table stand in that order -/
theorem row_wl {A : Ar} : ∀ {k : Nat} {r : Int} {L : List It}, IsH A k r L → k ≤ 10 → (rdF A (k + 2) r).Pairwise fun x y => lessF x.k y.k k = true
  | k, r, L, h, hk => by
    rcases row_cases L with rfl | ⟨x, rfl⟩ | h2
    · rw [isH_nil.1 h, rdF_no (getA_z A)]; exact List.Pairwise.nil
    · rw [rdF_leaf (isH_one.1 h)]; exact List.pairwise_singleton _ _
    · cases k with
      | zero =>
        obtain ⟨y, m, q1, q2, _, _, q5, _, q6, q7, q8⟩ := clash_node ((isH_clash h2).1 h) h2
        rw [rd_clash (f := 0) q1 q2 q6 q7 q8]
        exact List.Pairwise.imp (fun h => decide_eq_true h) q5
      | succ k =>
        obtain ⟨y, q1, q2, _, q4, q5⟩ := trie_zero h h2
        rw [show k + 1 + 2 = (k + 2) + 1 by omega, rdF_node q1 (by omega), kids4 q5 _ (rdF_no (getA_z A))]
        have hm : ∀ i, i < 4 → ∀ z ∈ rdF A (k + 2) (y.kids.getD i 0), dig z.k (9 - k) = i := fun i hi z hz => (ofL_mem.1 ((rd_perm (f := 0) (q4 i hi)).mem_iff.1 hz)).2
        have hs : ∀ i, i < 4 → (rdF A (k + 2) (y.kids.getD i 0)).Pairwise fun x y => lessF x.k y.k (k + 1) = true := fun i hi => by
          refine List.Pairwise.imp_of_mem ?_ (row_wl (q4 i hi) (by omega))
          intro a b ha hb hab
          rw [lessF, if_pos ((hm i hi a ha).trans (hm i hi b hb).symm)]; exact hab
        have hx : ∀ i j, i < j → j < 4 → ∀ a ∈ rdF A (k + 2) (y.kids.getD i 0), ∀ b ∈ rdF A (k + 2) (y.kids.getD j 0), lessF a.k b.k (k + 1) = true := fun i j hij hj a ha b hb => by
          rw [lessF, if_neg (by rw [hm i (by omega) a ha, hm j hj b hb]; omega), hm i (by omega) a ha, hm j hj b hb]
          exact decide_eq_true hij
        refine List.pairwise_append.2 ⟨hs 0 (by omega), List.pairwise_append.2 ⟨hs 1 (by omega), List.pairwise_append.2 ⟨hs 2 (by omega), hs 3 (by omega), hx 2 3 (by omega) (by omega)⟩, fun a ha b hb => ?_⟩, fun a ha b hb => ?_⟩
        · rcases List.mem_append.1 hb with hb | hb
          · exact hx 1 2 (by omega) (by omega) a ha b hb
          · exact hx 1 3 (by omega) (by omega) a ha b hb
        · rcases List.mem_append.1 hb with hb | hb
          · exact hx 0 1 (by omega) (by omega) a ha b hb
          · rcases List.mem_append.1 hb with hb | hb
            · exact hx 0 2 (by omega) (by omega) a ha b hb
            · exact hx 0 3 (by omega) (by omega) a ha b hb
theorem rowH_wl {A : Ar} {r : Int} {L : List It} (h : IsH A 10 r L) : Wl (rowH A r) := row_wl h (Nat.le_refl _)
theorem rem4 (n : Nat) : ((n : Nat) : Int).tmod 4 = ((n % 4 : Nat) : Int) := by rw [Int.tmod_eq_emod_of_nonneg (Int.natCast_nonneg _)]; rfl
theorem c_wLess (a b : Int) (w : World) : FC Try.prog 14 [.int .i64 a, .int .i64 b] w (Val (.bool (lessK a b)) w) := by
  have ha := hashOf_lt a
  have hb := hashOf_lt b
  refine FC.intro Try.func14 rfl Try.ntmps14 rfl ?_
  have S := Sub.refl w
  refine RC.seq ?_
  refine RC.region rfl ?_
  refine RL.ev (.assign rfl) rfl rfl ?_
  refine RL.nil (RC.back ?_)
  refine RC.seq ?_
  refine RC.region rfl ?_
  refine RL.ev (.move rfl) rfl rfl ?_
  refine RL.call rfl ok43 (c_hash a w) rfl rfl ?_
  rintro _ w1 ⟨rfl, s2⟩
  have S := S.trans s2
  refine RL.ev (.move rfl) rfl rfl ?_
  refine RL.call rfl ok43 (c_hash b w1) rfl rfl ?_
  rintro _ w3 ⟨rfl, s4⟩
  have S := S.trans s4
  refine RL.ev (.as (v' := .int .i64 ((hashOf a / 4 ^ 0 : Nat) : Int)) (.assign rfl) (by rw [Nat.pow_zero, Nat.div_one])) rfl rfl ?_
  refine RL.ev (.as (v' := .int .i64 ((hashOf b / 4 ^ 0 : Nat) : Int)) (.assign rfl) (by rw [Nat.pow_zero, Nat.div_one])) rfl rfl ?_
  refine RL.nil (RC.back ?_)
  refine RC.seq ?_
  refine RC.seq ?_
  refine RC.region rfl ?_
  refine RL.ev (.move rfl) rfl rfl ?_
  refine RL.nil (RC.back ?_)
  refine RC.block ?_
  refine RC.loop (α := Nat) (fun i => [(0, .int .i64 a), (1, .int .i64 b), (5, .int .i64 ((hashOf a / 4 ^ i : Nat) : Int)), (6, .int .i64 ((hashOf b / 4 ^ i : Nat) : Int)), (11, .int .i64 (i : Int))]) (fun i w5 => (i ≤ 10 ∧ lessK a b = lessF a b (10 - i)) ∧ Sub w w5) (fun i => 10 - i) 0 (keep_of (by repeat (first | exact trivial | refine And.intro rfl ?_))) (⟨⟨Nat.zero_le _, rfl⟩, S⟩) (fun i w5 hJ => ?_)
  obtain ⟨⟨hi, he⟩, S⟩ := hJ; have hpa : hashOf a / 4 ^ i ≤ hashOf a := Nat.div_le_self _ _; have hpb : hashOf b / 4 ^ i ≤ hashOf b := Nat.div_le_self _ _; have hqa : hashOf a / 4 ^ (i + 1) ≤ hashOf a := Nat.div_le_self _ _; have hqb : hashOf b / 4 ^ (i + 1) ≤ hashOf b := Nat.div_le_self _ _
  refine RC.seq ?_
  refine RC.region rfl ?_
  refine RL.ev (.bin rfl rfl rfl) rfl rfl ?_
  refine RL.nil (RC.back ?_)
  refine RC.seq ?_
  refine RC.cond_dec rfl (fun h6 => ?_) (fun h6 => ?_)
  ·
    have hs : 10 - i = (9 - i) + 1 := (by omega)
    have h9 : 9 - (9 - i) = i := (by omega)
    refine RC.skip (RC.back ?_)
    refine RC.seq ?_
    refine RC.block ?_
    refine RC.seq ?_
    refine RC.seq ?_
    refine RC.region rfl ?_
    refine RL.ev (.move rfl) rfl rfl ?_
    refine RL.ev (.as (v' := .int .i64 (dig a i : Nat)) (.rem rfl rfl (by decide)) (by rw [rem4]; rfl)) rfl rfl ?_
    refine RL.ev (.move rfl) rfl rfl ?_
    refine RL.ev (.as (v' := .int .i64 (dig b i : Nat)) (.rem rfl rfl (by decide)) (by rw [rem4]; rfl)) rfl rfl ?_
    refine RL.ev (.bin rfl rfl rfl) rfl rfl ?_
    refine RL.nil (RC.back ?_)
    refine RC.cond_dec rfl (fun h7 => ?_) (fun h7 => ?_)
    ·
      have q1 : ¬ dig a i = dig b i := (by have := h7; omega)
      refine RC.seq ?_
      refine RC.region rfl ?_
      refine RL.ev (.move rfl) rfl rfl ?_
      refine RL.ev (.as (v' := .int .i64 (dig a i : Nat)) (.rem rfl rfl (by decide)) (by rw [rem4]; rfl)) rfl rfl ?_
      refine RL.ev (.move rfl) rfl rfl ?_
      refine RL.ev (.as (v' := .int .i64 (dig b i : Nat)) (.rem rfl rfl (by decide)) (by rw [rem4]; rfl)) rfl rfl ?_
      refine RL.ev (.bin rfl rfl rfl) rfl rfl ?_
      refine RL.ev (.assign rfl) rfl rfl ?_
      refine RL.nil (RC.back ?_)
      refine RC.done (rs := [.tmp 4]) (vs := [_]) rfl rfl ⟨rfl, trivial⟩ ?_
      -- end 1
      exact ⟨congrArg Value.bool (by rw [he, hs, lessF, h9, if_neg q1]; exact decide_eq_decide.2 (by omega)), S⟩
    ·
      have q1 : dig a i = dig b i := (by have := h7; omega)
      refine RC.skip (RC.back ?_)
      refine RC.region rfl ?_
      refine RL.ev (.move rfl) rfl rfl ?_
      refine RL.ev (.as (v' := .int .i64 ((hashOf a / 4 ^ (i + 1) : Nat) : Int)) (.quo rfl rfl (by decide)) (by exact wi64 (div4 a i) ⟨Int.le_trans (by decide) (Int.natCast_nonneg _), Int.le_trans (Int.ofNat_le.2 hqa) (by omega)⟩)) rfl rfl ?_
      refine RL.ev (.move rfl) rfl rfl ?_
      refine RL.ev (.as (v' := .int .i64 ((hashOf b / 4 ^ (i + 1) : Nat) : Int)) (.quo rfl rfl (by decide)) (by exact wi64 (div4 b i) ⟨Int.le_trans (by decide) (Int.natCast_nonneg _), Int.le_trans (Int.ofNat_le.2 hqb) (by omega)⟩)) rfl rfl ?_
      refine RL.ev (.assign rfl) rfl rfl ?_
      refine RL.ev (.assign rfl) rfl rfl ?_
      refine RL.nil (RC.back ?_)
      refine RC.region rfl ?_
      refine RL.ev (.as (.bin rfl rfl rfl) (wi64 (y := ((i + 1 : Nat) : Int)) (by omega) (by omega))) rfl rfl ?_
      refine RL.ev (.move rfl) rfl rfl ?_
      exact RL.nil (fun a ka => ⟨i + 1, ⟨⟨by omega, by rw [he, hs, lessF, h9, if_pos q1]; congr 1; omega⟩, S⟩, by omega, ka.keep (keep_of (by repeat (first | exact trivial | refine And.intro rfl ?_)))⟩)
  ·
    obtain rfl : i = 10 := (by omega)
    refine RC.exit rfl (RC.back ?_)
    refine RC.seq ?_
    refine RC.region rfl ?_
    refine RL.ev (.move rfl) rfl rfl ?_
    refine RL.ev (.move rfl) rfl rfl ?_
    refine RL.ev (.bin rfl rfl rfl) rfl rfl ?_
    refine RL.ev (.assign rfl) rfl rfl ?_
    refine RL.nil (RC.back ?_)
    refine RC.done (rs := [.tmp 4]) (vs := [_]) rfl rfl ⟨rfl, trivial⟩ ?_
    -- end 2
    exact ⟨congrArg Value.bool (by rw [he]; rfl), S⟩
theorem wl_get {l : List It} (hw : Wl l) {i j : Nat} {x y : It} (hi : l[i]? = some x) (hj : l[j]? = some y) (h : i < j) : lessK x.k y.k = true := by
  have h1 := lt_of_get hi
  have h2 := lt_of_get hj
  have := List.pairwise_iff_getElem.1 hw i j h1 h2 h
  rw [List.getElem?_eq_getElem h1] at hi
  rw [List.getElem?_eq_getElem h2] at hj
  rwa [Option.some.inj hi, Option.some.inj hj] at this
end Go.Proofs.Ytbfjobmebkhblaa
set_option linter.unusedVariables false
set_option linter.unusedSimpArgs false
namespace Go.Proofs.Ytbfjobmebkhblaa
open Go Go.XL
def findK (A : Ar) (r key : Int) : Option It := (rowH A r).find? fun x => lessK key x.k
/-- what First and Next tell -/
def FndP (A : Ar) (r : Int) (o : Option It) (x : It) (e : Int) : Prop := (¬ isTab A r → x = ⟨0, 0⟩ ∧ e = 1) ∧ (isTab A r → (∃ y, o = some y ∧ x = y ∧ e = 0) ∨ (o = none ∧ x = ⟨0, 0⟩ ∧ e = 3))
theorem c_wNext1 (key : Int) (b5 : Nat) (x : It) (w : World) (h : Has w b5 [.int .i64 key] 2) : FC Try.prog 47 ([x.val] ++ [.pointer (some ⟨b5, 0, none⟩)]) w (Val (.bool (lessK key x.k)) w) := by
  refine FC.intro Try.func47 rfl Try.ntmps47 rfl ?_
  have S := Sub.refl w
  refine RC.seq ?_
  refine RC.region rfl ?_
  refine RL.box rfl rfl rfl (fun b_2 w_2 e_2 z_2 hb_2 s_2 => ?_)
  have ge_2 := S.le e_2
  have n5__2 := h.ne e_2
  have S := S.trans s_2
  have h := h.sub s_2
  have hb_2 : Has w_2 b_2 (x.cells) _ := hb_2
  refine RL.ev (.assign rfl) rfl rfl ?_
  refine RL.nil (RC.back ?_)
  refine RC.seq ?_
  refine RC.region rfl ?_
  refine RL.ev (.load1 sh2 rfl (h.cell rfl)) rfl rfl ?_
  refine RL.ev (.field0 fo29_0 rfl) rfl rfl ?_
  refine RL.ev (.load1 sh2 rfl (hb_2.cell rfl)) rfl rfl ?_
  refine RL.call rfl ok14 (c_wLess key x.k w_2) rfl rfl ?_
  rintro _ w1 ⟨rfl, s2⟩
  have S := S.trans s2
  have h := h.sub s2
  have hb_2 := hb_2.sub s2
  refine RL.ev (.assign rfl) rfl rfl ?_
  refine RL.nil (RC.back ?_)
  refine RC.done (rs := [.tmp 3]) (vs := [_]) rfl rfl ⟨rfl, trivial⟩ ?_
  -- end 1
  exact ⟨rfl, S⟩
theorem c_wNext (A : Ar) (na fa : Option Addr) (nc fc : Nat) (hnc : A.nodes.length ≤ nc) (hfc : A.free.length ≤ fc) (r : Int) (hr : U64 r) (key : Int) (w : World) (hA : ArR w na fa A) :
    FC Try.prog 19 [arV na fa nc fc A, .int .u64 r, .int .i64 key] w (fun v w' => Sub w w' ∧ ∃ x e, v = .tuple #[x.val, .int .i64 e] ∧ FndP A r (findK A r key) x e) := by
  have hNd := hA.nodes
  have hFr := hA.free
  have hG : Ft (· < w.heap.size) (fun u => ArR u na fa A) w := Ft.of_sub fun u s => hA.sub s
  refine FC.intro Try.func19 rfl Try.ntmps19 rfl ?_
  have S := Sub.refl w
  refine RC.seq ?_
  refine RC.region rfl ?_
  refine RL.box rfl rfl rfl (fun b_3 w_3 e_3 z_3 hb_3 s_3 => ?_)
  have ge_3 := S.le e_3
  have S := S.trans s_3
  have hb_3 : Has w_3 b_3 ([.slice na A.nodes.length nc, .slice fa A.free.length fc]) _ := hb_3
  refine RL.box rfl rfl rfl (fun b_5 w_5 e_5 z_5 hb_5 s_5 => ?_)
  have ge_5 := S.le e_5
  have n_3__5 := hb_3.ne e_5
  have S := S.trans s_5
  have hb_3 := hb_3.sub s_5
  refine RL.alloc ze29 rfl rfl (fun b_6 w_6 e_6 z_6 hb_6 s_6 => ?_)
  have ge_6 := S.le e_6
  have n_3__6 := hb_3.ne e_6
  have n_5__6 := hb_5.ne e_6
  have S := S.trans s_6
  have hb_3 := hb_3.sub s_6
  have hb_5 := hb_5.sub s_6
  refine RL.ev (.assign rfl) rfl rfl ?_
  refine RL.nil (RC.back ?_)
  refine RC.seq ?_
  refine RC.region rfl ?_
  refine RL.ev (.loadR ([.slice na A.nodes.length nc, .slice fa A.free.length fc]) sh34 rfl hb_3.row rfl) rfl rfl ?_
  refine RL.ev (.move rfl) rfl rfl ?_
  refine RL.ev (.func (xs := []) (ys := [_]) rfl rfl) rfl rfl ?_
  refine RL.call rfl ok46 (c_wfirst A na fa nc fc hnc hfc r hr 47 ok47 [.pointer (some ⟨b_5, 0, none⟩)] (fun x => lessK key x.k) (· < w.heap.size) (· = b_5) (fun u => Has u b_5 [.int .i64 key] 2) w_6 (hG.sub S) hb_5.ft (fun k hk e => by omega) (fun u u' h h' k hk => by rw [hk]; unfold Has at h h'; rw [h, h']) (fun x u _ h => c_wNext1 key b_5 x u h)) rfl rfl ?_
  rintro _ w1 ⟨s2, x, e, rfl, hf1, hf2⟩
  have S := S.trans s2
  have hb_3 := hb_3.sub s2
  have hb_5 := hb_5.sub s2
  have hb_6 := hb_6.sub s2
  refine RL.ev (.extract rfl rfl) rfl rfl ?_
  refine RL.ev (.extract rfl rfl) rfl rfl ?_
  refine RL.store sh29 rfl rfl rfl hb_6 (by exact Nat.le_of_ble_eq_true rfl) (by rfl) rfl (fun w3 z3 hb_6 a3 => ?_)
  have S := S.upd a3 ge_6
  have hb_3 := hb_3.upd a3 n_3__6
  have hb_5 := hb_5.upd a3 n_5__6
  have hb_6 : Has w3 b_6 (x.cells) _ := hb_6.now (by kernel_rfl)
  refine RL.ev (.assign rfl) rfl rfl ?_
  refine RL.nil (RC.back ?_)
  refine RC.done (rs := [.cell 6 29, .tmp 7]) (vs := [_, _]) rfl rfl ⟨⟨_, rfl, .inr ⟨x.cells, sh29, hb_6.row, rfl⟩⟩, rfl, trivial⟩ ?_
  -- end 1
  exact ⟨S, x, e, rfl, hf1, hf2⟩
theorem c_wFirst1 (x : It) (w : World) : FC Try.prog 50 ([x.val] ++ []) w (Val (.bool true) w) := by
  refine FC.intro Try.func50 rfl Try.ntmps50 rfl ?_
  have S := Sub.refl w
  refine RC.seq ?_
  refine RC.region rfl ?_
  refine RL.box rfl rfl rfl (fun b_1 w_1 e_1 z_1 hb_1 s_1 => ?_)
  have ge_1 := S.le e_1
  have S := S.trans s_1
  have hb_1 : Has w_1 b_1 (x.cells) _ := hb_1
  refine RL.ev (.assign rfl) rfl rfl ?_
  refine RL.nil (RC.back ?_)
  refine RC.seq ?_
  refine RC.region rfl ?_
  refine RL.ev (.assign rfl) rfl rfl ?_
  refine RL.nil (RC.back ?_)
  refine RC.done (rs := [.tmp 2]) (vs := [_]) rfl rfl ⟨rfl, trivial⟩ ?_
  -- end 1
  exact ⟨rfl, S⟩
theorem c_wFirst (A : Ar) (na fa : Option Addr) (nc fc : Nat) (hnc : A.nodes.length ≤ nc) (hfc : A.free.length ≤ fc) (r : Int) (hr : U64 r) (w : World) (hA : ArR w na fa A) :
    FC Try.prog 24 [arV na fa nc fc A, .int .u64 r] w (fun v w' => Sub w w' ∧ ∃ x e, v = .tuple #[x.val, .int .i64 e] ∧ FndP A r (rowH A r).head? x e) := by
  have hNd := hA.nodes
  have hFr := hA.free
  have hG : Ft (· < w.heap.size) (fun u => ArR u na fa A) w := Ft.of_sub fun u s => hA.sub s
  have hh : (rowH A r).find? (fun _ => true) = (rowH A r).head? := by cases rowH A r <;> rfl
  refine FC.intro Try.func24 rfl Try.ntmps24 rfl ?_
  have S := Sub.refl w
  refine RC.seq ?_
  refine RC.region rfl ?_
  refine RL.box rfl rfl rfl (fun b_2 w_2 e_2 z_2 hb_2 s_2 => ?_)
  have ge_2 := S.le e_2
  have S := S.trans s_2
  have hb_2 : Has w_2 b_2 ([.slice na A.nodes.length nc, .slice fa A.free.length fc]) _ := hb_2
  refine RL.alloc ze29 rfl rfl (fun b_4 w_4 e_4 z_4 hb_4 s_4 => ?_)
  have ge_4 := S.le e_4
  have n_2__4 := hb_2.ne e_4
  have S := S.trans s_4
  have hb_2 := hb_2.sub s_4
  refine RL.ev (.assign rfl) rfl rfl ?_
  refine RL.nil (RC.back ?_)
  refine RC.seq ?_
  refine RC.region rfl ?_
  refine RL.ev (.loadR ([.slice na A.nodes.length nc, .slice fa A.free.length fc]) sh34 rfl hb_2.row rfl) rfl rfl ?_
  refine RL.ev (.move rfl) rfl rfl ?_
  refine RL.call rfl ok46 (c_wfirst A na fa nc fc hnc hfc r hr 50 ok50 [] (fun x => true) (· < w.heap.size) (fun _ => False) (fun u => True) w_4 (hG.sub S) ⟨fun _ h => h.elim, fun _ _ => trivial⟩ (fun k hk e => e) (fun u u' _ _ k hk => hk.elim) (fun x u _ _ => c_wFirst1 x u)) rfl rfl ?_
  rintro _ w1 ⟨s2, x, e, rfl, hf1, hf2⟩
  have S := S.trans s2
  have hb_2 := hb_2.sub s2
  have hb_4 := hb_4.sub s2
  refine RL.ev (.extract rfl rfl) rfl rfl ?_
  refine RL.ev (.extract rfl rfl) rfl rfl ?_
  refine RL.store sh29 rfl rfl rfl hb_4 (by exact Nat.le_of_ble_eq_true rfl) (by rfl) rfl (fun w3 z3 hb_4 a3 => ?_)
  have S := S.upd a3 ge_4
  have hb_2 := hb_2.upd a3 n_2__4
  have hb_4 : Has w3 b_4 (x.cells) _ := hb_4.now (by kernel_rfl)
  refine RL.ev (.assign rfl) rfl rfl ?_
  refine RL.nil (RC.back ?_)
  refine RC.done (rs := [.cell 4 29, .tmp 5]) (vs := [_, _]) rfl rfl ⟨⟨_, rfl, .inr ⟨x.cells, sh29, hb_4.row, rfl⟩⟩, rfl, trivial⟩ ?_
  -- end 1
  rw [hh] at hf2
  exact ⟨S, x, e, rfl, hf1, hf2⟩
def one57 : List It := [⟨5, 7⟩]
theorem one57_ap : Ap one57 := List.pairwise_singleton _ _
theorem one57_fit : ∀ x ∈ one57, shL x.k one57 ≤ 9 := fun x _ => Nat.le_trans (shL_le _ _) (by decide)
theorem one57_ok : ∀ z ∈ one57, z.ok := fun z hz => by rw [List.mem_singleton.1 hz]; exact ⟨by unfold I64; decide, by unfold I64; decide⟩
theorem c_alive10 (w : World) : FC Try.prog 15 [] w (Val (.bool true) w) := by
  have hc : cnt 10 one57 = 1 := cnt_few (by decide)
  refine FC.intro Try.func15 rfl Try.ntmps15 rfl ?_
  have S := Sub.refl w
  refine RC.seq ?_
  refine RC.region rfl ?_
  refine RL.ev (.assign rfl) rfl rfl ?_
  refine RL.nil (RC.back ?_)
  refine RC.seq ?_
  refine RC.region rfl ?_
  refine RL.ev (.buildS ze29 pl29 rfl rfl) rfl rfl ?_
  refine RL.buildSlice1 sl26 _ ze29 rfl rfl rfl rfl rfl rfl rfl (fun b_7 w_7 e_7 z_7 hb_7 s_7 => ?_)
  have ge_7 := S.le e_7
  have S := S.trans s_7
  refine RL.call rfl ok18 (c_build9 9 one57 (some ⟨b_7, 0, none⟩) 1 1 rfl one57_ap one57_fit one57_ok (by omega) (by decide) (by decide) (by decide) w_7 (Has.sl0 (rows := one57.map It.cells) hb_7 it_rows)) rfl rfl ?_
  rintro _ w1 ⟨B, r, na, fa, nc, fc, rfl, hB, hnc, hfc, hi, s2⟩
  have hA := (hi (fun _ => False) (fun _ h => h.elim)).now
  have S := S.trans s2
  have hb_7 := hb_7.sub s2
  obtain ⟨W1, S1, hA⟩ : ∃ W, Sub W w1 ∧ ArR W na fa B := ⟨_, Sub.refl _, hA⟩
  have hT := hB.isH (by decide)
  have htab := tab_of (hB.ok (by decide) (by decide)) hT one57_ap (by decide)
  have hrow : rowH B r = one57 := List.perm_singleton.1 (rowH_perm hT)
  refine RL.ev (.move rfl) rfl rfl ?_
  refine RL.ev (.extract rfl rfl) rfl rfl ?_
  refine RL.ev (.extract rfl rfl) rfl rfl ?_
  refine RL.alloc ze34 rfl rfl (fun b_1 w_1 e_1 z_1 hb_1 s_1 => ?_)
  have ge_1 := S.le e_1
  have n_7__1 := hb_7.ne e_1
  have S := S.trans s_1
  have hb_7 := hb_7.sub s_1
  have geS1_1 := S1.le e_1
  have S1 := S1.trans s_1
  refine RL.store sh34 rfl rfl rfl hb_1 (by exact Nat.le_of_ble_eq_true rfl) (by rfl) rfl (fun w3 z3 hb_1 a3 => ?_)
  have S := S.upd a3 ge_1
  have hb_7 := hb_7.upd a3 n_7__1
  have S1 := S1.upd a3 geS1_1
  have hb_1 : Has w3 b_1 ([.slice na B.nodes.length nc, .slice fa B.free.length fc]) _ := hb_1.now (by kernel_rfl)
  refine RL.ev (.assign rfl) rfl rfl ?_
  refine RL.nil (RC.back ?_)
  refine RC.seq ?_
  refine RC.region rfl ?_
  refine RL.ev (.loadR ([.slice na B.nodes.length nc, .slice fa B.free.length fc]) sh34 rfl hb_1.row rfl) rfl rfl ?_
  refine RL.ev (.move rfl) rfl rfl ?_
  refine RL.call rfl ok24 (c_wFirst B na fa nc fc hnc hfc r hB.u w3 (hA.sub S1)) rfl rfl ?_
  rintro _ w4 ⟨s5, x, e, rfl, hf⟩
  have S := S.trans s5
  have hb_7 := hb_7.sub s5
  have S1 := S1.trans s5
  have hb_1 := hb_1.sub s5
  obtain ⟨y, hy, hxy, he⟩ := (hf.2 htab).resolve_right (fun h => by rw [hrow] at h; cases h.1)
  have hx : x = ⟨5, 7⟩ := (by rw [hxy]; rw [hrow] at hy; exact (Option.some.inj hy).symm)
  subst hx
  refine RL.ev (.move rfl) rfl rfl ?_
  refine RL.ev (.extract rfl rfl) rfl rfl ?_
  refine RL.ev (.extract rfl rfl) rfl rfl ?_
  refine RL.alloc ze29 rfl rfl (fun b_3 w_3 e_3 z_3 hb_3 s_3 => ?_)
  have ge_3 := S.le e_3
  have n_7__3 := hb_7.ne e_3
  have n_1__3 := hb_1.ne e_3
  have S := S.trans s_3
  have hb_7 := hb_7.sub s_3
  have geS1_3 := S1.le e_3
  have S1 := S1.trans s_3
  have hb_1 := hb_1.sub s_3
  refine RL.store sh29 rfl rfl rfl hb_3 (by exact Nat.le_of_ble_eq_true rfl) (by rfl) rfl (fun w6 z6 hb_3 a6 => ?_)
  have S := S.upd a6 ge_3
  have hb_7 := hb_7.upd a6 n_7__3
  have S1 := S1.upd a6 geS1_3
  have hb_1 := hb_1.upd a6 n_1__3
  have hb_3 : Has w6 b_3 ((⟨5, 7⟩ : It).cells) _ := hb_3.now (by kernel_rfl)
  refine RL.ev (.assign rfl) rfl rfl ?_
  refine RL.nil (RC.back ?_)
  refine RC.seq ?_
  refine RC.region rfl ?_
  refine RL.ev (.move rfl) rfl rfl ?_
  refine RL.ev (.as (v' := .bool true) (.bin rfl rfl rfl) (congrArg Value.bool (decide_eq_true (he)))) rfl rfl ?_
  refine RL.ev (.move rfl) rfl rfl ?_
  refine RL.ev (.loadR ((⟨5, 7⟩ : It).cells) sh29 rfl hb_3.row rfl) rfl rfl ?_
  refine RL.ev (.buildS ze29 pl29 rfl rfl) rfl rfl ?_
  refine RL.ev (.as (v' := .bool true) (.eqS (xs := (⟨5, 7⟩ : It).cells) (ys := (⟨5, 7⟩ : It).cells) fk29 eg29 sh29 rfl rfl rfl rfl rfl) (congrArg Value.bool (rfl))) rfl rfl ?_
  refine RL.ev (.pick_t rfl rfl) rfl rfl ?_
  refine RL.ev (.assign rfl) rfl rfl ?_
  refine RL.nil (RC.back ?_)
  refine RC.done (rs := [.tmp 0]) (vs := [_]) rfl rfl ⟨rfl, trivial⟩ ?_
  -- end 1
  exact ⟨rfl, S⟩
end Go.Proofs.Ytbfjobmebkhblaa
set_option linter.unusedVariables false
set_option linter.unusedSimpArgs false
namespace Go.Proofs.Ytbfjobmebkhblaa
open Go Go.XL
theorem eqL_it_iff (x y : It) : eqL x.cells y.cells = decide (x = y) := by
  obtain ⟨a, b⟩ := x
  obtain ⟨c, d⟩ := y
  simp [eqL, eq1, It.cells]
  rfl
end Go.Proofs.Ytbfjobmebkhblaa
set_option linter.unusedVariables false
set_option linter.unusedSimpArgs false
namespace Go.Proofs.Ytbfjobmebkhblaa
open Go Go.XL
theorem find_at {p : It → Bool} {R : List It} {i : Nat} {z : It} (h0 : (R.take i).find? p = none) (hz : R[i]? = some z) (h : p z = true) : R.find? p = some z := by
  have hi := lt_of_get hz
  have e : R = R.take i ++ z :: R.drop (i + 1) := by
    conv => lhs; rw [← List.take_append_drop i R]
    rw [List.drop_eq_getElem_cons hi]
    rw [List.getElem?_eq_getElem hi] at hz
    rw [Option.some.inj hz]
  rw [e, List.find?_append, h0, List.find?_cons_of_pos h]; rfl
theorem fnd_some {A : Ar} {r : Int} {o : Option It} {x y : It} {e : Int} (h : FndP A r o x e) (ht : isTab A r) (ho : o = some y) : x = y ∧ e = 0 := by
  obtain ⟨z, h1, h2, h3⟩ := (h.2 ht).resolve_right (fun h => by rw [ho] at h; cases h.1)
  rw [ho] at h1
  exact ⟨h2.trans (Option.some.inj h1).symm, h3⟩
theorem fnd_none {A : Ar} {r : Int} {o : Option It} {x : It} {e : Int} (h : FndP A r o x e) (ht : isTab A r) (ho : o = none) : x = ⟨0, 0⟩ ∧ e = 3 :=
  ((h.2 ht).resolve_left (fun ⟨y, h, _⟩ => by rw [ho] at h; cases h)).2
end Go.Proofs.Ytbfjobmebkhblaa
set_option linter.unusedVariables false
set_option linter.unusedSimpArgs false
namespace Go.Proofs.Ytbfjobmebkhblaa
open Go Go.XL
theorem hash60 : ((List.range 60).map fun (n : Nat) => hashOf (n : Int)).Nodup := by decide +kernel
theorem hash60_inj {a b : Int} (ha : 0 ≤ a ∧ a < 60) (hb : 0 ≤ b ∧ b < 60) (h : hashOf a = hashOf b) : a = b := by
  obtain ⟨m, rfl⟩ : ∃ m : Nat, a = m := ⟨a.toNat, by omega⟩
  obtain ⟨n, rfl⟩ : ∃ n : Nat, b = n := ⟨b.toNat, by omega⟩
  have h60 := hash60
  rw [List.nodup_iff_pairwise_ne, List.pairwise_map] at h60
  rw [List.pairwise_iff_getElem] at h60
  rcases Nat.lt_trichotomy m n with q | q | q
  · have := h60 m n (by simp; omega) (by simp; omega) q
    simp only [List.getElem_range] at this
    exact absurd h this
  · rw [q]
  · have := h60 n m (by simp; omega) (by simp; omega) q
    simp only [List.getElem_range] at this
    exact absurd h.symm this
def Low (L : List It) : Prop := ∀ x ∈ L, 0 ≤ x.k ∧ x.k < 60
theorem Low.perm {L M : List It} (h : Low L) (p : L.Perm M) : Low M := fun x hx => h x (p.mem_iff.2 hx)
theorem Low.put {L : List It} (h : Low L) {key v : Int} (hk : 0 ≤ key ∧ key < 60) : Low (putM L key v) := fun x hx => by
  rcases List.mem_cons.1 hx with rfl | hx
  · exact hk
  · exact h x (delL_mem.1 hx).1
theorem Low.del {L : List It} (h : Low L) {key : Int} : Low (delL L key) := fun x hx => h x (delL_mem.1 hx).1
theorem few_same : ∀ {L : List It}, Ap L → (∀ x ∈ L, ∀ y ∈ L, x.k = y.k) → L.length ≤ 1
  | [], _, _ => Nat.zero_le _
  | [x], _, _ => Nat.le_refl _
  | x :: y :: L, h, e => absurd (e x (by simp) y (by simp)) ((List.pairwise_cons.1 h).1 y (by simp))
theorem shL_low {L : List It} (hap : Ap L) (hlow : Low L) (k : Int) : shL k L ≤ 1 := by
  unfold shL
  refine few_same (hap.filter _) fun x hx y hy => ?_
  obtain ⟨h1, h2⟩ := List.mem_filter.1 hx
  obtain ⟨h3, h4⟩ := List.mem_filter.1 hy
  exact hash60_inj (hlow x h1) (hlow y h3) (by simp at h2 h4; rw [h2, h4])
theorem sub_len : ∀ (L ks : List Int), L.Nodup → (∀ x ∈ L, x ∈ ks) → L.length ≤ ks.length
  | [], ks, _, _ => Nat.zero_le _
  | x :: L, ks, h, hs => by
    obtain ⟨h1, h2⟩ := List.nodup_cons.1 h
    have hx := hs x (by simp)
    have := sub_len L (ks.erase x) h2 fun y hy => (List.mem_erase_of_ne (fun (e : y = x) => h1 (e ▸ hy))).2 (hs y (by simp [hy]))
    rw [List.length_erase_of_mem hx] at this
    have hp := List.length_pos_of_mem hx
    rw [List.length_cons]; omega
theorem Ap.keys {L : List It} (h : Ap L) : (L.map fun x => x.k).Nodup := by
  rw [List.nodup_iff_pairwise_ne, List.pairwise_map]; exact h
def zeroI (k : Int) : It := ⟨k, 0⟩
theorem ofL_keys (lv i : Nat) (ks : List Int) : ofL lv i (ks.map zeroI) = (ks.filter fun k => decide (dig k lv = i)).map zeroI := by
  unfold ofL; rw [List.filter_map]; rfl
theorem cnt_pos {k : Nat} {L : List It} (h : 1 ≤ L.length) : 1 ≤ cnt k L := by
  rcases row_cases L with rfl | ⟨x, rfl⟩ | h2
  · simp at h
  · rw [cnt_few (by simp)]; exact Nat.le_refl _
  · cases k with
    | zero => rw [cnt_0 h2]; omega
    | succ k => rw [cnt_s h2]; omega
theorem cnt_bound : ∀ (k : Nat) (L : List It) (ks : List Int), Ap L → (∀ x ∈ L, x.k ∈ ks) → cnt k L ≤ cnt k (ks.map zeroI)
  | k, L, ks, hap, hs => by
    have hlen : L.length ≤ ks.length := by
      have := sub_len (L.map fun x => x.k) ks hap.keys (fun y hy => by obtain ⟨x, hx, rfl⟩ := List.mem_map.1 hy; exact hs x hx)
      rwa [List.length_map] at this
    rcases row_cases L with rfl | ⟨x, rfl⟩ | h2
    · rw [cnt_nil]; exact Nat.zero_le _
    · rw [cnt_few (by simp)]; exact cnt_pos (by rw [List.length_map]; exact hlen)
    · have h2' : 2 ≤ (ks.map zeroI).length := by rw [List.length_map]; omega
      cases k with
      | zero => rw [cnt_0 h2, cnt_0 h2', List.length_map]; omega
      | succ k =>
        have q : ∀ i, cnt k (ofL (9 - k) i L) ≤ cnt k (ofL (9 - k) i (ks.map zeroI)) := fun i => by
          rw [ofL_keys]
          exact cnt_bound k _ _ (hap.of _ _) fun x hx => List.mem_filter.2 ⟨hs x (ofL_mem.1 hx).1, by simpa using (ofL_mem.1 hx).2⟩
        have q0 := q 0
        have q1 := q 1
        have q2 := q 2
        have q3 := q 3
        rw [cnt_s h2, cnt_s h2']; omega
theorem cnt60 : cnt 10 (((List.range 60).map fun (n : Nat) => (n : Int)).map zeroI) ≤ 100 := by decide +kernel
theorem cnt_low {L : List It} (hap : Ap L) (hlow : Low L) : cnt 10 L ≤ 100 :=
  Nat.le_trans (cnt_bound 10 L _ hap fun x hx => List.mem_map.2 ⟨x.k.toNat, List.mem_range.2 (by have := hlow x hx; omega), by have := hlow x hx; omega⟩) cnt60
theorem low_len {L : List It} (hap : Ap L) (hlow : Low L) : L.length ≤ 60 := by
  have := sub_len (L.map fun x => x.k) ((List.range 60).map fun (n : Nat) => (n : Int)) hap.keys (fun y hy => by
    obtain ⟨x, hx, rfl⟩ := List.mem_map.1 hy
    exact List.mem_map.2 ⟨x.k.toNat, List.mem_range.2 (by have := hlow x hx; omega), by have := hlow x hx; omega⟩)
  simpa using this
theorem low_bad {L : List It} (hap : Ap L) (hlow : Low L) {key : Int} (hk : 0 ≤ key ∧ key < 60) : ¬ BadH L key := by
  have := shL_low hap hlow key
  have := low_len hap hlow
  exact fun h => h.elim (by omega) (fun h => h.elim (by omega) (fun h => h.2.elim (by omega) (by omega)))
theorem PutPH.low {A B : Ar} {r key v r' e : Int} {L : List It} (h : PutPH A r key v B r' e) (hA : AOk A) (hL : IsH A 10 r L) (hap : Ap L) (hlow : Low L) (hk : 0 ≤ key ∧ key < 60) (hf : 100 ≤ A.free.length ∨ 12 * (L.length + 1) ≤ A.free.length) :
    e = 0 ∧ Ext A B ∧ AOk B ∧ A.free.length ≤ B.free.length + 100 ∧ IsH B 10 r' (putM L key v) := by
  have hc := cnt_low (hap.put (key := key) (v := v)) (hlow.put hk)
  have hc2 := cnt_le 10 (putM L key v)
  have hpl := putM_len (key := key) (v := v) hap
  have hll := low_len hap hlow
  rcases (put_twoH h (tab_of hA hL hap (by omega)) hL hap).2 (low_bad hap hlow hk) with h | ⟨h1, h2, h3, h4, h5⟩
  · omega
  · exact ⟨h1, h2, h3, by omega, h5⟩
theorem DelPH.low {A B : Ar} {r key r' e : Int} {L : List It} (h : DelPH A r key B r' e) (hA : AOk A) (hL : IsH A 10 r L) (hap : Ap L) (hlow : Low L) (hf : 100 ≤ A.free.length ∨ 12 * L.length ≤ A.free.length) :
    (hasK L key = false ∧ e = 3) ∨ (hasK L key = true ∧ e = 0 ∧ Ext A B ∧ AOk B ∧ A.free.length ≤ B.free.length + 100 ∧ IsH B 10 r' (delL L key)) := by
  have hc := cnt_low (hap.del (key := key)) hlow.del
  have hc2 := cnt_le 10 (delL L key)
  have hdl : (delL L key).length ≤ L.length := List.length_filter_le _ _
  have hll := low_len hap hlow
  have := del_twoH h (tab_of hA hL hap (by omega)) hL hap
  cases hh : hasK L key with
  | false => exact .inl ⟨rfl, (this.1 hh).1⟩
  | true =>
    rcases this.2 hh with h | ⟨h1, h2, h3, h4, h5⟩
    · omega
    · exact .inr ⟨rfl, h1, h2, h3, by omega, h5⟩
end Go.Proofs.Ytbfjobmebkhblaa
set_option linter.unusedVariables false
set_option linter.unusedSimpArgs false
namespace Go.Proofs.Ytbfjobmebkhblaa
open Go Go.XL
def idW (i : Int) : Int := i
/-- keys of one hash are few: how far that was gone over -/
def FewTo (R : List It) (j : Nat) : Prop := ∀ i x, i < j → R[i]? = some x → shL x.k R ≤ 9
theorem FewTo.all {R : List It} (h : FewTo R R.length) : ∀ x ∈ R, shL x.k R ≤ 9 := fun x hx => by
  obtain ⟨i, hi⟩ := List.getElem?_of_mem hx
  exact h i x (lt_of_get hi) hi
theorem FewTo.next {R : List It} {j : Nat} {x : It} (h : FewTo R j) (hx : R[j]? = some x) (hq : shL x.k R ≤ 9) : FewTo R (j + 1) := fun i y hi hy => by
  by_cases e : i = j
  · subst e; rw [hx] at hy; cases hy; exact hq
  · exact h i y (by omega) hy
end Go.Proofs.Ytbfjobmebkhblaa
set_option linter.unusedVariables false
set_option linter.unusedSimpArgs false
namespace Go.Proofs.Ytbfjobmebkhblaa
open Go Go.XL
def idK (x : Int) : Int := x
/-- the key behind one of a row's is the next one -/
theorem find_behind {R : List It} (hw : Wl R) {i : Nat} {x : It} (hx : R[i]? = some x) : R.find? (fun z => lessK x.k z.k) = R[i + 1]? := by
  have h0 : (R.take (i + 1)).find? (fun z => lessK x.k z.k) = none := by
    rw [List.find?_eq_none]
    intro y hy
    obtain ⟨j, hj⟩ := List.getElem?_of_mem hy
    have hjl := lt_of_get hj
    rw [List.length_take] at hjl
    rw [List.getElem?_take_of_lt (by omega)] at hj
    by_cases e : j = i
    · subst e; rw [hx] at hj; cases hj; simp [lessK_irrefl]
    · have h1 := wl_get hw hj hx (by omega)
      intro h2
      have h3 := lessK_trans h1 h2
      rw [lessK_irrefl] at h3; cases h3
  cases h : R[i + 1]? with
  | none =>
    have hl : R.length ≤ i + 1 := by
      rcases Nat.lt_or_ge (i + 1) R.length with q | q
      · obtain ⟨y, hy⟩ := getSome q; rw [hy] at h; cases h
      · exact q
    rw [List.take_of_length_le hl] at h0
    exact h0
  | some z => exact find_at (p := fun z => lessK x.k z.k) h0 h (wl_get hw hx h (by omega))
/-- how far the row was gone over: what is at hand is its next one, or none -/
def AtW (R : List It) (i : Nat) (x : It) (e : Int) : Prop := (R[i]? = some x ∧ e = 0) ∨ (R.length ≤ i ∧ e = 3)
theorem atW_of {A : Ar} {r : Int} {o : Option It} {x : It} {e : Int} (h : FndP A r o x e) (ht : isTab A r) {R : List It} {i : Nat} (ho : o = R[i]?) : AtW R i x e := by
  cases q : R[i]? with
  | none =>
    have := fnd_none h ht (ho.trans q)
    refine .inr ⟨?_, this.2⟩
    rcases Nat.lt_or_ge i R.length with g | g
    · obtain ⟨y, hy⟩ := getSome g; rw [hy] at q; cases q
    · exact g
  | some y =>
    have := fnd_some h ht (ho.trans q)
    exact .inl ⟨by rw [q, this.1], this.2⟩
/-- the keys that were seen -/
def seenF (R : List It) (i : Nat) (k : Int) : Option Value := if k ∈ (R.take i).map (fun x => x.k) then some (.bool true) else none
theorem seen_0 (R : List It) : (fun _ : Int => (none : Option Value)) = seenF R 0 := by funext k; simp [seenF]
theorem seen_next {R : List It} {i : Nat} {x : It} (hx : R[i]? = some x) : (fun k => if k = x.k then some (Value.bool true) else seenF R i k) = seenF R (i + 1) := by
  funext k
  unfold seenF
  rw [List.take_add_one, hx, List.map_append]
  by_cases q : k = x.k
  · rw [if_pos q, if_pos (by rw [List.mem_append]; right; simp [q])]
  · rw [if_neg q]
    by_cases q2 : k ∈ (R.take i).map (fun x => x.k)
    · rw [if_pos q2, if_pos (List.mem_append_left _ q2)]
    · rw [if_neg q2, if_neg (fun h => (List.mem_append.1 h).elim q2 (fun h => q (by simpa using h)))]
theorem seen_not {R : List It} (hap : Ap R) {i : Nat} {x : It} (hx : R[i]? = some x) : seenF R i x.k = none := by
  unfold seenF
  rw [if_neg]
  intro h
  obtain ⟨y, hy, e⟩ := List.mem_map.1 h
  obtain ⟨j, hj⟩ := List.getElem?_of_mem hy
  have hjl := lt_of_get hj
  rw [List.length_take] at hjl
  rw [List.getElem?_take_of_lt (by omega)] at hj
  have h1 := lt_of_get hj
  have h2 := lt_of_get hx
  have := List.pairwise_iff_getElem.1 hap j i h1 h2 (by omega)
  rw [List.getElem?_eq_getElem h1] at hj
  rw [List.getElem?_eq_getElem h2] at hx
  rw [Option.some.inj hj, Option.some.inj hx] at this
  exact this e
set_option maxHeartbeats 1000000 in
theorem law_WalkSteps (w : World) (l : List Int) (pa : Option Addr) (pc : Nat) (hlc : l.length ≤ pc) (hcm : pc ≤ maxLen) (hs : Sl w pa 1 (l.map fun x => [i6 x])) (hli : ∀ x ∈ l, I64 x) :
    FC Try.prog 7 [.slice pa l.length pc] w (Val (.bool true) w) := by
  have hll : l.length ≤ 9223372036854775807 := Nat.le_trans hlc (Nat.le_trans hcm (by decide))
  refine FC.intro Try.func7 rfl Try.ntmps7 rfl ?_
  have S := Sub.refl w
  refine RC.seq ?_
  refine RC.region rfl ?_
  refine RL.ev (.assign rfl) rfl rfl ?_
  refine RL.nil (RC.back ?_)
  refine RC.seq ?_
  refine RC.region rfl ?_
  refine RL.ev (.assign rfl) rfl rfl ?_
  refine RL.nil (RC.back ?_)
  refine RC.seq ?_
  refine RC.seq ?_
  refine RC.region rfl ?_
  refine RL.ev (.move rfl) rfl rfl ?_
  refine RL.ev (.len sl25 rfl) rfl rfl ?_
  refine RL.ev (.move rfl) rfl rfl ?_
  refine RL.nil (RC.back ?_)
  refine RC.block ?_
  refine RC.loop (α := Nat × Option Addr × Nat × Nat) (fun x => [(3, .slice x.2.1 x.2.2.1 x.2.2.2), (16, .slice pa l.length pc), (17, .int .i64 (l.length : Int)), (18, .int .i64 (x.1 : Int))]) (fun x w1 => (x.1 ≤ l.length ∧ x.2.2.1 = (rowN idK idW 25 l x.1).length ∧ (rowN idK idW 25 l x.1).length ≤ x.2.2.2) ∧ Sl w1 x.2.1 2 ((rowN idK idW 25 l x.1).map It.cells) ∧ Sub w w1) (fun x => l.length - x.1) (0, none, 0, 0) (keep_of (by repeat (first | exact trivial | refine And.intro rfl ?_))) (⟨⟨Nat.zero_le _, rfl, Nat.zero_le _⟩, Sl.nil _ _ _, S⟩) (fun x w1 hJ => ?_)
  obtain ⟨i, ra, rm, rc⟩ := x; obtain ⟨⟨hi, hm, hc⟩, hr, S⟩ := hJ; simp only [] at hi hm hc hr; have hrl := rowN_len idK idW 25 l i
  refine RC.seq ?_
  refine RC.region rfl ?_
  refine RL.ev (.bin rfl rfl rfl) rfl rfl ?_
  refine RL.nil (RC.back ?_)
  refine RC.seq ?_
  refine RC.cond_dec rfl (fun h2 => ?_) (fun h2 => ?_)
  ·
    obtain ⟨x, hx⟩ := getSome (l := l) (i := i) (by omega)
    refine RC.skip (RC.back ?_)
    refine RC.seq ?_
    refine RC.block ?_
    refine RC.seq ?_
    refine RC.region rfl ?_
    refine RL.ev (.move rfl) rfl rfl ?_
    refine RL.ev (.indexS sl25 rfl rfl (by omega) (hs.is (i := 0) (by simp only [List.length_map, List.length_cons, List.length_nil]; omega))) rfl rfl ?_
    refine RL.ev (.load1 sh2 rfl ((hs.sub S).one (enc := i6) (i := i) hx)) rfl rfl ?_
    refine RL.ev (.assign rfl) rfl rfl ?_
    refine RL.ev (.assign rfl) rfl rfl ?_
    refine RL.nil (RC.back ?_)
    refine RC.seq ?_
    refine RC.region rfl ?_
    refine RL.ev (.move rfl) rfl rfl ?_
    refine RL.ev (.bin rfl rfl rfl) rfl rfl ?_
    refine RL.nil (RC.back ?_)
    refine RC.cond_dec rfl (fun h3 => ?_) (fun h3 => ?_)
    ·
      have hlt : i < 25 := (by omega)
      refine RC.region rfl ?_
      refine RL.ev (.move rfl) rfl rfl ?_
      refine RL.ev (.move rfl) rfl rfl ?_
      refine RL.ev (.move rfl) rfl rfl ?_
      refine RL.call rfl ok16 (c_refPut (rowN idK idW 25 l i) ra rc rm hm (idK x) (i : Int) w1 (hr) (by omega)) rfl rfl ?_
      rintro vr w4 ⟨a1, c1, hvr, o1, s5⟩
      have S := S.trans s5
      rw [← show rowN idK idW 25 l (i + 1) = putR (rowN idK idW 25 l i) (idK x) (i : Int) from rowN_put hx hlt] at hvr o1
      subst hvr
      have hc1 : (rowN idK idW 25 l (i + 1)).length ≤ c1 := (by obtain ⟨_, c', e, h⟩ := o1.form; cases e; rw [List.length_map] at h; exact h)
      refine RL.ev (.assign rfl) rfl rfl ?_
      refine RL.nil (RC.back ?_)
      refine RC.region rfl ?_
      refine RL.ev (.as (.bin rfl rfl rfl) (wi64 (y := ((i + 1 : Nat) : Int)) (by omega) (by omega))) rfl rfl ?_
      refine RL.ev (.move rfl) rfl rfl ?_
      exact RL.nil (fun a ka => ⟨(i + 1, a1, _, c1), ⟨⟨by omega, List.length_map _, hc1⟩, o1.sl.1, S⟩, by omega, ka.keep (keep_of (by repeat (first | exact trivial | refine And.intro rfl ?_)))⟩)
    ·
      have hge : ¬ i < 25 := (by omega)
      rw [← rowN_stay hge] at hm hc hr
      refine RC.skip (RC.back ?_)
      refine RC.region rfl ?_
      refine RL.ev (.as (.bin rfl rfl rfl) (wi64 (y := ((i + 1 : Nat) : Int)) (by omega) (by omega))) rfl rfl ?_
      refine RL.ev (.move rfl) rfl rfl ?_
      exact RL.nil (fun a ka => ⟨(i + 1, ra, rm, rc), ⟨⟨by omega, hm, hc⟩, hr, S⟩, by omega, ka.keep (keep_of (by repeat (first | exact trivial | refine And.intro rfl ?_)))⟩)
  ·
    obtain rfl : i = l.length := (by omega)
    have hRs := rowN_srt idK idW 25 l l.length
    have hRok := rowN_all (f := idK) (g := idW) (most := 25) (l := l) (P := It.ok) (fun x hx i hi => ⟨hli x hx, by unfold I64; show _ ≤ (i : Int) ∧ (i : Int) ≤ _; omega⟩) l.length (Nat.le_refl _)
    obtain ⟨R, hR⟩ : ∃ R, rowN idK idW 25 l l.length = R := ⟨_, rfl⟩
    rw [hR] at hm hc hr hrl hRs hRok
    have hR25 := hrl.1
    subst hm
    obtain ⟨W0, S0, hr⟩ : ∃ W, Sub W w1 ∧ Sl W ra 2 (R.map It.cells) := ⟨_, Sub.refl _, hr⟩
    have hap := hRs.ap
    have hcR := cnt_le 10 R
    refine RC.exit rfl (RC.back ?_)
    refine RC.seq ?_
    refine RC.seq ?_
    refine RC.region rfl ?_
    refine RL.ev (.move rfl) rfl rfl ?_
    refine RL.ev (.len sl26 rfl) rfl rfl ?_
    refine RL.ev (.move rfl) rfl rfl ?_
    refine RL.nil (RC.back ?_)
    refine RC.block ?_
    refine RC.loop (α := Nat) (fun j => [(3, .slice ra R.length rc), (30, .slice ra R.length rc), (31, .int .i64 (R.length : Int)), (32, .int .i64 (j : Int))]) (fun j w6 => (j ≤ R.length ∧ FewTo R j) ∧ Sub W0 w6 ∧ Sub w w6) (fun j => R.length - j) 0 (keep_of (by repeat (first | exact trivial | refine And.intro rfl ?_))) (⟨⟨Nat.zero_le _, fun i x h => absurd h (by omega)⟩, S0, S⟩) (fun j w6 hJ => ?_)
    obtain ⟨⟨hj, hfew⟩, S0, S⟩ := hJ; have hr2 := hr.sub S0
    refine RC.seq ?_
    refine RC.region rfl ?_
    refine RL.ev (.bin rfl rfl rfl) rfl rfl ?_
    refine RL.nil (RC.back ?_)
    refine RC.seq ?_
    refine RC.cond_dec rfl (fun h7 => ?_) (fun h7 => ?_)
    ·
      obtain ⟨x, hx⟩ := getSome (l := R) (i := j) (by omega)
      refine RC.skip (RC.back ?_)
      refine RC.seq ?_
      refine RC.block ?_
      refine RC.seq ?_
      refine RC.region rfl ?_
      refine RL.ev (.indexS sl26 rfl rfl (by omega) (hr2.is (i := 0) (by simp only [List.length_map, List.length_cons, List.length_nil]; omega))) rfl rfl ?_
      refine RL.ev (.loadR (x.cells) sh29 rfl (hr2.rowAt (enc := It.cells) (i := j) hx) rfl) rfl rfl ?_
      refine RL.alloc ze29 rfl rfl (fun b_7 w_7 e_7 z_7 hb_7 s_7 => ?_)
      have ge_7 := S.le e_7
      have S := S.trans s_7
      have geS0_7 := S0.le e_7
      have S0 := S0.trans s_7
      refine RL.store sh29 rfl rfl rfl hb_7 (by exact Nat.le_of_ble_eq_true rfl) (by rfl) rfl (fun w8 z8 hb_7 a8 => ?_)
      have S := S.upd a8 ge_7
      have S0 := S0.upd a8 geS0_7
      have hb_7 : Has w8 b_7 (x.cells) _ := hb_7.now (by kernel_rfl)
      refine RL.nil (RC.back ?_)
      refine RC.seq ?_
      refine RC.region rfl ?_
      refine RL.ev (.move rfl) rfl rfl ?_
      refine RL.ev (.field0 fo29_0 rfl) rfl rfl ?_
      refine RL.ev (.load1 sh2 rfl (hb_7.cell rfl)) rfl rfl ?_
      refine RL.call rfl ok17 (c_refCrowd R ra rc _ rfl x.k w8 (hr.sub S0) (by omega)) rfl rfl ?_
      rintro _ w9 ⟨rfl, s10⟩
      have S := S.trans s10
      have S0 := S0.trans s10
      have hb_7 := hb_7.sub s10
      refine RL.ev (.bin rfl rfl rfl) rfl rfl ?_
      refine RL.nil (RC.back ?_)
      refine RC.cond_dec rfl (fun h11 => ?_) (fun h11 => ?_)
      ·
        have h42 := h11
        refine RC.seq ?_
        refine RC.region rfl ?_
        refine RL.call rfl ok15 (c_alive10 w9) rfl rfl ?_
        rintro _ w12 ⟨rfl, s13⟩
        have S := S.trans s13
        have S0 := S0.trans s13
        have hb_7 := hb_7.sub s13
        refine RL.ev (.assign rfl) rfl rfl ?_
        refine RL.nil (RC.back ?_)
        refine RC.done (rs := [.tmp 2]) (vs := [_]) rfl rfl ⟨rfl, trivial⟩ ?_
        -- end 1
        exact ⟨rfl, S⟩
      ·
        have hfew2 := hfew.next hx (by have := h11; omega)
        refine RC.skip (RC.back ?_)
        refine RC.region rfl ?_
        refine RL.ev (.as (.bin rfl rfl rfl) (wi64 (y := ((j + 1 : Nat) : Int)) (by omega) (by omega))) rfl rfl ?_
        refine RL.ev (.move rfl) rfl rfl ?_
        exact RL.nil (fun a ka => ⟨j + 1, ⟨⟨by omega, hfew2⟩, S0, S⟩, by omega, ka.keep (keep_of (by repeat (first | exact trivial | refine And.intro rfl ?_)))⟩)
    ·
      obtain rfl : j = R.length := (by omega)
      have hfit := hfew.all
      refine RC.exit rfl (RC.back ?_)
      refine RC.seq ?_
      refine RC.region rfl ?_
      refine RL.ev (.move rfl) rfl rfl ?_
      refine RL.call rfl ok18 (c_build9 500 R ra rc _ rfl hap hfit hRok (by omega) (by decide) (by decide) (by omega) w6 (hr.sub S0)) rfl rfl ?_
      rintro _ w14 ⟨A1, r1, na1, fa1, nc1, fc1, rfl, hB1, hn1, hf1, hi1, s15⟩
      have hA1 := (hi1 (fun _ => False) (fun _ h => h.elim)).now
      have S := S.trans s15
      have S0 := S0.trans s15
      have hT1 := hB1.isH (by decide)
      have hok1 := hB1.ok (by decide) (by decide)
      have hU1 := hB1.u
      have htab := tab_of hok1 hT1 hap (by omega)
      have hwl := rowH_wl hT1
      have hpm := rowH_perm hT1
      obtain ⟨W1, S1, hA1⟩ : ∃ W, Sub W w14 ∧ ArR W na1 fa1 A1 := ⟨_, Sub.refl _, hA1⟩
      refine RL.ev (.move rfl) rfl rfl ?_
      refine RL.ev (.extract rfl rfl) rfl rfl ?_
      refine RL.ev (.extract rfl rfl) rfl rfl ?_
      refine RL.alloc ze34 rfl rfl (fun b_8 w_8 e_8 z_8 hb_8 s_8 => ?_)
      have ge_8 := S.le e_8
      have S := S.trans s_8
      have geS0_8 := S0.le e_8
      have S0 := S0.trans s_8
      have geS1_8 := S1.le e_8
      have S1 := S1.trans s_8
      refine RL.store sh34 rfl rfl rfl hb_8 (by exact Nat.le_of_ble_eq_true rfl) (by rfl) rfl (fun w16 z16 hb_8 a16 => ?_)
      have S := S.upd a16 ge_8
      have S0 := S0.upd a16 geS0_8
      have S1 := S1.upd a16 geS1_8
      have hb_8 : Has w16 b_8 ([.slice na1 A1.nodes.length nc1, .slice fa1 A1.free.length fc1]) _ := hb_8.now (by kernel_rfl)
      refine RL.ev (.assign rfl) rfl rfl ?_
      refine RL.nil (RC.back ?_)
      refine RC.seq ?_
      refine RC.region rfl ?_
      refine RL.ev (.loadR ([.slice na1 A1.nodes.length nc1, .slice fa1 A1.free.length fc1]) sh34 rfl hb_8.row rfl) rfl rfl ?_
      refine RL.ev (.move rfl) rfl rfl ?_
      refine RL.call rfl ok21 (c_wAll A1 na1 fa1 nc1 fc1 hn1 hf1 r1 hU1 w16 (hA1.sub S1)) rfl rfl ?_
      rintro _ w17 ⟨s18, xa, xc, X, e3, rfl, hX, _, hX2⟩
      have S := S.trans s18
      have S0 := S0.trans s18
      have S1 := S1.trans s18
      have hb_8 := hb_8.sub s18
      obtain ⟨hXe, he3⟩ := hX2 htab
      rw [← hXe] at hwl hpm
      have hXl := hpm.length_eq
      obtain ⟨W3, S3, hX⟩ : ∃ W, Sub W w17 ∧ Sl W xa 2 (X.map It.cells) := ⟨_, Sub.refl _, hX⟩
      refine RL.ev (.move rfl) rfl rfl ?_
      refine RL.ev (.extract rfl rfl) rfl rfl ?_
      refine RL.ev (.extract rfl rfl) rfl rfl ?_
      refine RL.ev (.assign rfl) rfl rfl ?_
      refine RL.ev (.assign rfl) rfl rfl ?_
      refine RL.nil (RC.back ?_)
      refine RC.seq ?_
      refine RC.region rfl ?_
      refine RL.ev (.loadR ([.slice na1 A1.nodes.length nc1, .slice fa1 A1.free.length fc1]) sh34 rfl hb_8.row rfl) rfl rfl ?_
      refine RL.ev (.move rfl) rfl rfl ?_
      refine RL.call rfl ok24 (c_wFirst A1 na1 fa1 nc1 fc1 hn1 hf1 r1 hU1 w17 (hA1.sub S1)) rfl rfl ?_
      rintro _ w19 ⟨s20, x5, e5, rfl, hf5⟩
      have S := S.trans s20
      have S0 := S0.trans s20
      have S1 := S1.trans s20
      have hb_8 := hb_8.sub s20
      have S3 := S3.trans s20
      have hat := atW_of hf5 htab (R := X) (i := 0) (by rw [hXe, List.head?_eq_getElem?])
      refine RL.ev (.move rfl) rfl rfl ?_
      refine RL.ev (.extract rfl rfl) rfl rfl ?_
      refine RL.ev (.extract rfl rfl) rfl rfl ?_
      refine RL.alloc ze29 rfl rfl (fun b_12 w_12 e_12 z_12 hb_12 s_12 => ?_)
      have ge_12 := S.le e_12
      have n_8__12 := hb_8.ne e_12
      have S := S.trans s_12
      have geS0_12 := S0.le e_12
      have S0 := S0.trans s_12
      have geS1_12 := S1.le e_12
      have S1 := S1.trans s_12
      have hb_8 := hb_8.sub s_12
      have geS3_12 := S3.le e_12
      have S3 := S3.trans s_12
      refine RL.store sh29 rfl rfl rfl hb_12 (by exact Nat.le_of_ble_eq_true rfl) (by rfl) rfl (fun w21 z21 hb_12 a21 => ?_)
      have S := S.upd a21 ge_12
      have S0 := S0.upd a21 geS0_12
      have S1 := S1.upd a21 geS1_12
      have hb_8 := hb_8.upd a21 n_8__12
      have S3 := S3.upd a21 geS3_12
      have hb_12 : Has w21 b_12 (x5.cells) _ := hb_12.now (by kernel_rfl)
      refine RL.ev (.assign rfl) rfl rfl ?_
      refine RL.nil (RC.back ?_)
      refine RC.seq ?_
      refine RC.seq ?_
      refine RC.region rfl ?_
      refine RL.ev (.move rfl) rfl rfl ?_
      refine RL.ev (.as (v' := .bool false) (.bin rfl rfl rfl) (congrArg Value.bool (decide_eq_false (fun h => h he3)))) rfl rfl ?_
      refine RL.ev (.move rfl) rfl rfl ?_
      refine RL.ev (.move rfl) rfl rfl ?_
      refine RL.ev (.len sl26 rfl) rfl rfl ?_
      refine RL.ev (.move rfl) rfl rfl ?_
      refine RL.ev (.len sl26 rfl) rfl rfl ?_
      refine RL.ev (.as (v' := .bool false) (.bin rfl rfl rfl) (congrArg Value.bool (decide_eq_false (fun h => h (by omega))))) rfl rfl ?_
      refine RL.ev (.pick_f rfl rfl) rfl rfl ?_
      refine RL.ev (.move rfl) rfl rfl ?_
      refine RL.call rfl ok15 (c_alive10 w21) rfl rfl ?_
      rintro _ w22 ⟨rfl, s23⟩
      have S := S.trans s23
      have S0 := S0.trans s23
      have S1 := S1.trans s23
      have hb_8 := hb_8.sub s23
      have S3 := S3.trans s23
      have hb_12 := hb_12.sub s23
      refine RL.ev (.not rfl) rfl rfl ?_
      refine RL.ev (.pick_f rfl rfl) rfl rfl ?_
      refine RL.nil (RC.back ?_)
      refine RC.cond_f rfl ?_
      refine RC.skip (RC.back ?_)
      refine RC.seq ?_
      refine RC.region rfl ?_
      refine RL.makeMap .i64 rfl rfl (fun b_73 w_73 e_73 z_73 hb_73 s_73 => ?_)
      have ge_73 := S.le e_73
      have n_8__73 := hb_8.ne e_73
      have n_12__73 := hb_12.ne e_73
      have S := S.trans s_73
      have geS0_73 := S0.le e_73
      have S0 := S0.trans s_73
      have geS1_73 := S1.le e_73
      have S1 := S1.trans s_73
      have hb_8 := hb_8.sub s_73
      have geS3_73 := S3.le e_73
      have S3 := S3.trans s_73
      have hb_12 := hb_12.sub s_73
      refine RL.ev (.assign rfl) rfl rfl ?_
      refine RL.nil (RC.back ?_)
      refine RC.seq ?_
      refine RC.seq ?_
      refine RC.region rfl ?_
      refine RL.ev (.move rfl) rfl rfl ?_
      refine RL.ev (.len sl26 rfl) rfl rfl ?_
      refine RL.ev (.move rfl) rfl rfl ?_
      refine RL.nil (RC.back ?_)
      refine RC.block ?_
      refine RC.loop (α := Nat × It × Int) (fun x => [(3, .slice ra R.length rc), (8, .pointer (some ⟨b_8, 0, none⟩)), (9, .int .u64 r1), (10, .slice xa X.length xc), (12, .pointer (some ⟨b_12, 0, none⟩)), (13, .int .i64 x.2.2), (14, .map (some b_73)), (74, .slice xa X.length xc), (75, .int .i64 (X.length : Int)), (76, .int .i64 (x.1 : Int))]) (fun x w24 => (x.1 ≤ X.length ∧ AtW X x.1 x.2.1 x.2.2) ∧ Has w24 b_8 [.slice na1 A1.nodes.length nc1, .slice fa1 A1.free.length fc1] 34 ∧ Has w24 b_12 x.2.1.cells 29 ∧ HasM w24 b_73 .i64 (seenF X x.1) ∧ Sub W0 w24 ∧ Sub W1 w24 ∧ Sub W3 w24 ∧ Sub w w24) (fun x => X.length - x.1) (0, x5, e5) (keep_of (by repeat (first | exact trivial | refine And.intro rfl ?_))) (⟨⟨Nat.zero_le _, hat⟩, hb_8, hb_12, (by rw [← seen_0]; exact hb_73), S0, S1, S3, S⟩) (fun x w24 hJ => ?_)
      obtain ⟨i, x, e⟩ := x; obtain ⟨⟨hi, hat⟩, hb_8, hb_12, hb_73, S0, S1, S3, S⟩ := hJ; simp only [] at hi hat hb_12 hb_73; have hX3 := hX.sub S3
      refine RC.seq ?_
      refine RC.region rfl ?_
      refine RL.ev (.bin rfl rfl rfl) rfl rfl ?_
      refine RL.nil (RC.back ?_)
      refine RC.seq ?_
      refine RC.cond_dec rfl (fun h25 => ?_) (fun h25 => ?_)
      ·
        have h77 := h25
        simp only [] at h77
        obtain ⟨hz, he0⟩ := hat.resolve_right (fun h => by omega)
        have hxm := hpm.mem_iff.1 (List.mem_of_getElem? hz)
        have hXf := Ft.of_sub (w := W3) (I := fun u => Sl u xa 2 (X.map It.cells)) fun u s => hX.sub s
        have hXf := hXf.sub S3
        refine RC.skip (RC.back ?_)
        refine RC.seq ?_
        refine RC.block ?_
        refine RC.seq ?_
        refine RC.region rfl ?_
        refine RL.ev (.move rfl) rfl rfl ?_
        refine RL.ev (.assign rfl) rfl rfl ?_
        refine RL.nil (RC.back ?_)
        refine RC.seq ?_
        refine RC.seq ?_
        refine RC.drawD (fun k => False) [] w24.heap.size 23 rfl rfl mxo (fun w26 s27 => ?_)
        have hNN : ∀ k, ((False) ∨ w24.heap.size ≤ k) → w.heap.size ≤ k := fun k e => e.elim (fun e => e.elim) (fun e => Nat.le_trans S.size e)
        have ent_S := S.size
        have ent_S0 := S0.size
        have ent_S1 := S1.size
        have ent_S3 := S3.size
        have hN0 : ∀ k, w24.heap.size ≤ k → w.heap.size ≤ k := fun k e => Nat.le_trans S.size e
        have ltD_b_8 := hb_8.lt
        have ltD_b_12 := hb_12.lt
        have ltD_b_73 := hb_73.lt
        have ltD_hXf := fun k hk => (hXf.ge k hk).2
        have szD := Nat.le_refl w24.heap.size
        have S := S.trans s27
        have S0 := S0.trans s27
        have S1 := S1.trans s27
        have S3 := S3.trans s27
        have hb_8 := hb_8.sub s27
        have hb_12 := hb_12.sub s27
        have hb_73 := hb_73.sub s27
        have hXf := hXf.sub s27
        have szD := Nat.le_trans szD s27.size
        refine RD.take 0 rfl (by kernel_rfl) (by kernel_rfl) (by kernel_rfl) (fun w' s' => .move rfl) rfl rfl ?_
        refine RD.take 1 rfl (by kernel_rfl) (by kernel_rfl) (by kernel_rfl) (fun w' s' => .as (v' := .bool false) (.bin rfl rfl rfl) (congrArg Value.bool (decide_eq_false (fun h => h he0)))) rfl rfl ?_
        refine RD.take 2 rfl (by kernel_rfl) (by kernel_rfl) (by kernel_rfl) (fun w' s' => .move rfl) rfl rfl ?_
        refine RD.take 3 rfl (by kernel_rfl) (by kernel_rfl) (by kernel_rfl) (fun w' s' => .loadR (x.cells) sh29 rfl (hb_12.step s' (fun e => e.elim (fun e => e.elim) (fun e => Nat.not_le.2 ltD_b_12 e))).row rfl) rfl rfl ?_
        refine RD.take 4 rfl (by kernel_rfl) (by kernel_rfl) (by kernel_rfl) (fun w' s' => .move rfl) rfl rfl ?_
        refine RD.take 5 rfl (by kernel_rfl) (by kernel_rfl) (by kernel_rfl) (fun w' s' => .move rfl) rfl rfl ?_
        refine RD.take 6 rfl (by kernel_rfl) (by kernel_rfl) (by kernel_rfl) (fun w' s' => .indexS sl26 rfl rfl (by omega) (hX3.is (i := i) (by simp only [List.length_map]; omega))) rfl rfl ?_
        refine RD.take 7 rfl (by kernel_rfl) (by kernel_rfl) (by kernel_rfl) (fun w' s' => .loadR (x.cells) sh29 rfl ((hXf.step s' (fun k hk e => e.elim (fun e => e.elim) (Nat.not_le.2 (ltD_hXf k hk)))).now.rowAt (enc := It.cells) (i := i) hz) rfl) rfl rfl ?_
        refine RD.take 8 rfl (by kernel_rfl) (by kernel_rfl) (by kernel_rfl) (fun w' s' => .as (v' := .bool false) (.neS (xs := x.cells) (ys := x.cells) fk29 eg29 sh29 rfl rfl rfl rfl rfl) (congrArg Value.bool (by rw [eqL_it_iff]; simp))) rfl rfl ?_
        refine RD.take 9 rfl (by kernel_rfl) (by kernel_rfl) (by kernel_rfl) (fun w' s' => .pick_f rfl rfl) rfl rfl ?_
        refine RD.take 10 rfl (by kernel_rfl) (by kernel_rfl) (by kernel_rfl) (fun w' s' => .move rfl) rfl rfl ?_
        refine RD.take 11 rfl (by kernel_rfl) (by kernel_rfl) (by kernel_rfl) (fun w' s' => .move rfl) rfl rfl ?_
        refine RD.take 12 rfl (by kernel_rfl) (by kernel_rfl) (by kernel_rfl) (fun w' s' => .field0 fo29_0 rfl) rfl rfl ?_
        refine RD.take 13 rfl (by kernel_rfl) (by kernel_rfl) (by kernel_rfl) (fun w' s' => .load1 sh2 rfl ((hb_12.step s' (fun e => e.elim (fun e => e.elim) (fun e => Nat.not_le.2 ltD_b_12 e))).cell rfl)) rfl rfl ?_
        refine RD.all [14] (by kernel_rfl) rfl (RDs.cons rfl ?_ (RDs.nil))
        refine RL.ev (.as (v' := .bool false) (.lookup Try.underlying52 Try.underlying2 ze4 rfl rfl hb_73) (by rw [seen_not hwl.ap hz]; rfl)) rfl rfl ?_
        refine RD.back (Agr.refl _ _) ?_
        refine RD.take 15 rfl (by kernel_rfl) (by kernel_rfl) (by kernel_rfl) (fun w' s' => .pick_f rfl rfl) rfl rfl ?_
        refine RD.take 16 rfl (by kernel_rfl) (by kernel_rfl) (by kernel_rfl) (fun w' s' => .move rfl) rfl rfl ?_
        refine RD.take 17 rfl (by kernel_rfl) (by kernel_rfl) (by kernel_rfl) (fun w' s' => .move rfl) rfl rfl ?_
        refine RD.take 18 rfl (by kernel_rfl) (by kernel_rfl) (by kernel_rfl) (fun w' s' => .field0 fo29_0 rfl) rfl rfl ?_
        refine RD.take 19 rfl (by kernel_rfl) (by kernel_rfl) (by kernel_rfl) (fun w' s' => .load1 sh2 rfl ((hb_12.step s' (fun e => e.elim (fun e => e.elim) (fun e => Nat.not_le.2 ltD_b_12 e))).cell rfl)) rfl rfl ?_
        refine RD.all [20] (by kernel_rfl) rfl (RDs.cons rfl ?_ (RDs.nil))
        refine RL.call rfl ok20 (c_refAt6 R ra rc _ rfl x.k w26 (hr.sub S0) (by omega)) rfl rfl ?_
        rintro _ w28 ⟨s29, n4, rfl, hn4⟩
        have S := S.trans s29
        have S0 := S0.trans s29
        have S1 := S1.trans s29
        have S3 := S3.trans s29
        have hb_8 := hb_8.sub s29
        have hb_12 := hb_12.sub s29
        have hb_73 := hb_73.sub s29
        have hXf := hXf.sub s29
        have szD := Nat.le_trans szD s29.size
        have hn5 := hn4.resolve_left (fun h => by rw [hasK_iff.2 ⟨x, hxm, rfl⟩] at h; cases h.2)
        refine RD.back s29.agr ?_
        refine RD.take 21 rfl (by kernel_rfl) (by kernel_rfl) (by kernel_rfl) (fun w' s' => .as (v' := .bool false) (.bin rfl rfl rfl) (congrArg Value.bool (decide_eq_false (by omega)))) rfl rfl ?_
        refine RD.take 22 rfl (by kernel_rfl) (by kernel_rfl) (by kernel_rfl) (fun w' s' => .pick_f rfl rfl) rfl rfl ?_
        refine RD.done (by kernel_rfl) (RC.back ?_)
        refine RC.cond_f rfl ?_
        refine RC.skip (RC.back ?_)
        refine RC.seq ?_
        refine RC.region rfl ?_
        refine RL.ev (.move rfl) rfl rfl ?_
        refine RL.ev (.field0 fo29_0 rfl) rfl rfl ?_
        refine RL.ev (.load1 sh2 rfl (hb_12.cell rfl)) rfl rfl ?_
        refine RL.mapUpdate Try.underlying52 Try.underlying2 rfl rfl rfl hb_73 rfl (fun w30 z30 hb_73 a30 => ?_)
        have S := S.upd a30 ge_73
        have S0 := S0.upd a30 geS0_73
        have S1 := S1.upd a30 geS1_73
        have S3 := S3.upd a30 geS3_73
        have hb_8 := hb_8.upd a30 n_8__73
        have hb_12 := hb_12.upd a30 n_12__73
        have hb_73 : HasM w30 b_73 .i64 (seenF X (i + 1)) := (by rw [← seen_next hz]; exact hb_73)
        refine RL.nil (RC.back ?_)
        refine RC.region rfl ?_
        refine RL.ev (.loadR ([.slice na1 A1.nodes.length nc1, .slice fa1 A1.free.length fc1]) sh34 rfl hb_8.row rfl) rfl rfl ?_
        refine RL.ev (.move rfl) rfl rfl ?_
        refine RL.ev (.field0 fo29_0 rfl) rfl rfl ?_
        refine RL.ev (.load1 sh2 rfl (hb_12.cell rfl)) rfl rfl ?_
        refine RL.call rfl ok19 (c_wNext A1 na1 fa1 nc1 fc1 hn1 hf1 r1 hU1 x.k w30 (hA1.sub S1)) rfl rfl ?_
        rintro _ w31 ⟨s32, x6, e6, rfl, hf6⟩
        have S := S.trans s32
        have S0 := S0.trans s32
        have S1 := S1.trans s32
        have S3 := S3.trans s32
        have hb_8 := hb_8.sub s32
        have hb_12 := hb_12.sub s32
        have hb_73 := hb_73.sub s32
        have hat6 := atW_of hf6 htab (R := X) (i := i + 1) (by unfold findK; rw [← hXe]; exact find_behind hwl hz)
        refine RL.ev (.move rfl) rfl rfl ?_
        refine RL.ev (.extract rfl rfl) rfl rfl ?_
        refine RL.ev (.extract rfl rfl) rfl rfl ?_
        refine RL.store sh29 rfl rfl rfl hb_12 (by exact Nat.le_of_ble_eq_true rfl) (by rfl) rfl (fun w33 z33 hb_12 a33 => ?_)
        have S := S.upd a33 ge_12
        have S0 := S0.upd a33 geS0_12
        have S1 := S1.upd a33 geS1_12
        have S3 := S3.upd a33 geS3_12
        have hb_8 := hb_8.upd a33 n_8__12
        have hb_73 := hb_73.upd a33 n_12__73.symm
        have hb_12 : Has w33 b_12 (x6.cells) _ := hb_12.now (by kernel_rfl)
        refine RL.ev (.assign rfl) rfl rfl ?_
        refine RL.nil (RC.back ?_)
        refine RC.region rfl ?_
        refine RL.ev (.as (.bin rfl rfl rfl) (wi64 (y := ((i + 1 : Nat) : Int)) (by omega) (by omega))) rfl rfl ?_
        refine RL.ev (.move rfl) rfl rfl ?_
        exact RL.nil (fun a ka => ⟨(i + 1, x6, e6), ⟨⟨by omega, hat6⟩, hb_8, hb_12, hb_73, S0, S1, S3, S⟩, by omega, ka.keep (keep_of (by repeat (first | exact trivial | refine And.intro rfl ?_)))⟩)
      ·
        have h77 := h25
        simp only [] at h77
        obtain ⟨_, he3⟩ := hat.resolve_left (fun h => by have := lt_of_get h.1; omega)
        refine RC.exit rfl (RC.back ?_)
        refine RC.seq ?_
        refine RC.region rfl ?_
        refine RL.ev (.move rfl) rfl rfl ?_
        refine RL.ev (.as (v' := .bool true) (.bin rfl rfl rfl) (congrArg Value.bool (decide_eq_true (he3)))) rfl rfl ?_
        refine RL.ev (.assign rfl) rfl rfl ?_
        refine RL.nil (RC.back ?_)
        refine RC.done (rs := [.tmp 2]) (vs := [_]) rfl rfl ⟨rfl, trivial⟩ ?_
        -- end 2
        exact ⟨rfl, S⟩
end Go.Proofs.Ytbfjobmebkhblaa
