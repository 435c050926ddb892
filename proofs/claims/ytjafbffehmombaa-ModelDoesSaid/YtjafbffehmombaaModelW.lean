/-
  The package model: operations on keys with values.
-/
import Derived.Test.YtjafbffehmombaaModelP
import Derived.Test.YtjafbffehmombaaRange
set_option linter.unusedVariables false
set_option linter.unusedSimpArgs false
namespace Go.Proofs.Ytjafbffehmombaa
open Go Go.XL

theorem c_pcmp (key : Int) (x : It) (w : World) : FC Try.prog 72 [x.val, .int .i64 key] w (Val (.int .i64 (cmpI x.k key)) w) := by
  refine FC.intro Try.func72 rfl Try.ntmps72 rfl ?_
  have S := Sub.refl w
  refine RC.seq ?_
  refine RC.region rfl ?_
  refine RL.box rfl rfl rfl (fun b_2 w_2 e_2 z_2 hb_2 s_2 => ?_)
  have ge_2 := S.le e_2
  have S := S.trans s_2
  have hb_2 : Has w_2 b_2 ([.int .i64 x.k, .int .i64 x.v]) _ := hb_2
  refine RL.ev (.assign rfl) rfl rfl ?_
  refine RL.nil (RC.back ?_)
  refine RC.seq ?_
  refine RC.region rfl ?_
  refine RL.ev (.field0 fo45_0 rfl) rfl rfl ?_
  refine RL.ev (.load1 sh2 rfl (hb_2.cell rfl)) rfl rfl ?_
  refine RL.ev (.move rfl) rfl rfl ?_
  refine RL.call rfl ok60 (c_compare x.k key w_2) rfl rfl ?_
  rintro _ w1 ⟨rfl, s2⟩
  have S := S.trans s2
  have hb_2 := hb_2.sub s2
  refine RL.ev (.assign rfl) rfl rfl ?_
  refine RL.nil (RC.back ?_)
  refine RC.done (rs := [.tmp 4]) (vs := [_]) rfl rfl ⟨rfl, trivial⟩ ?_
  -- end 1
  exact ⟨rfl, S⟩
theorem cmpI_neg {a b : Int} : cmpI a b < 0 ↔ a < b := by rcases cmpI_cases a b with h | h | h <;> omega
theorem cmpI_zero {a b : Int} : cmpI a b = 0 ↔ a = b := by rcases cmpI_cases a b with h | h | h <;> omega
theorem c_none (w : World) : FC Try.prog 73 [] w (Val (.agg #[.int .i64 3, .int .i64 0, .int .i64 0]) w) := by
  refine FC.intro Try.func73 rfl Try.ntmps73 rfl ?_
  have S := Sub.refl w
  refine RC.seq ?_
  refine RC.region rfl ?_
  refine RL.alloc ze39 rfl rfl (fun b_0 w_0 e_0 z_0 hb_0 s_0 => ?_)
  have ge_0 := S.le e_0
  have S := S.trans s_0
  refine RL.nil (RC.back ?_)
  refine RC.seq ?_
  refine RC.region rfl ?_
  refine RL.ev (.buildS ze39 pl39 rfl rfl) rfl rfl ?_
  refine RL.store sh39 rfl rfl rfl hb_0 (by exact Nat.le_of_ble_eq_true rfl) (by rfl) rfl (fun w1 z1 hb_0 a1 => ?_)
  have S := S.upd a1 ge_0
  have hb_0 : Has w1 b_0 ([.int .i64 3, .int .i64 0, .int .i64 0]) _ := hb_0.now (by kernel_rfl)
  refine RL.nil (RC.back ?_)
  refine RC.done (rs := [.cell 0 39]) (vs := [_]) rfl rfl ⟨⟨_, rfl, .inr ⟨[.int .i64 3, .int .i64 0, .int .i64 0], sh39, hb_0.row, rfl⟩⟩, trivial⟩ ?_
  -- end 1
  exact ⟨rfl, S⟩
theorem c_full (w : World) : FC Try.prog 76 [] w (Val (.agg #[.int .i64 5, .int .i64 0, .int .i64 0]) w) := by
  refine FC.intro Try.func76 rfl Try.ntmps76 rfl ?_
  have S := Sub.refl w
  refine RC.seq ?_
  refine RC.region rfl ?_
  refine RL.alloc ze39 rfl rfl (fun b_0 w_0 e_0 z_0 hb_0 s_0 => ?_)
  have ge_0 := S.le e_0
  have S := S.trans s_0
  refine RL.nil (RC.back ?_)
  refine RC.seq ?_
  refine RC.region rfl ?_
  refine RL.ev (.buildS ze39 pl39 rfl rfl) rfl rfl ?_
  refine RL.store sh39 rfl rfl rfl hb_0 (by exact Nat.le_of_ble_eq_true rfl) (by rfl) rfl (fun w1 z1 hb_0 a1 => ?_)
  have S := S.upd a1 ge_0
  have hb_0 : Has w1 b_0 ([.int .i64 5, .int .i64 0, .int .i64 0]) _ := hb_0.now (by kernel_rfl)
  refine RL.nil (RC.back ?_)
  refine RC.done (rs := [.cell 0 39]) (vs := [_]) rfl rfl ⟨⟨_, rfl, .inr ⟨[.int .i64 5, .int .i64 0, .int .i64 0], sh39, hb_0.row, rfl⟩⟩, trivial⟩ ?_
  -- end 1
  exact ⟨rfl, S⟩
/-- an answer: a row, and what is told -/
def AnsP (M : Nat → Prop) (w w' : World) (q : List It × ResT) (u : Value) : Prop := Sub w w' ∧ ∃ a' c' M', u = .tuple #[.slice a' q.1.length c', .agg q.2.cells.toArray] ∧ q.1.length ≤ c' ∧ Ft M' (fun u => Sl u a' 2 (q.1.map It.cells)) w' ∧ Up M w M'
theorem c_pairs (l : List It) (a : Option Addr) (c m : Nat) (hm : m = l.length) (hs : Srt l) (hl200 : l.length ≤ 200) (hc : l.length ≤ c) (o : OpT) (hok : okP o) (w : World) (M : Nat → Prop) (hF : Ft M (fun u => Sl u a 2 (l.map It.cells)) w) :
    FC Try.prog 62 [.slice a m c, .agg o.cells.toArray] w (fun u w' => AnsP M w w' (pairsM l o) u) := by
  subst hm
  have hl := hF.now
  have hk := hok.1
  obtain ⟨n, hn⟩ : ∃ n, n = (ltL o.a l).length := ⟨_, rfl⟩
  obtain ⟨g0, g1, g2, g3⟩ := part_has hs hn
  obtain ⟨is, his⟩ : ∃ b, b = hasK l o.a := ⟨_, rfl⟩
  rw [← his] at g0
  have hdef : pairsM l o = if o.kind = 6 then (l, ⟨0, l.length, 0⟩)
    else if o.kind = 2 then
      if is = false ∧ (200 ≤ l.length ∨ o.box = 2 ∧ 9 ≤ crowdL l o.a) then (l, ⟨5, 0, 0⟩)
      else (putL l o.a o.b, if is then ⟨0, 1, (valAt l n).v⟩ else ⟨0, 0, 0⟩)
    else if o.kind = 4 then
      if (if is then n + 1 else n) = 0 then (l, ⟨3, 0, 0⟩)
      else (l, ⟨0, (valAt l ((if is then n + 1 else n) - 1)).k, (valAt l ((if is then n + 1 else n) - 1)).v⟩)
    else if o.kind = 5 then (l, ⟨0, n, 0⟩)
    else if is = false then (l, ⟨3, 0, 0⟩)
    else (if o.kind = 3 then delL l o.a else l, ⟨0, (valAt l n).v, 0⟩) := by rw [hn, his]; rfl
  have hkk : 1 ≤ o.kind ∧ o.kind ≤ 6 := ⟨hk.2.2.1, hk.2.2.2.1⟩
  refine FC.intro Try.func62 rfl Try.ntmps62 rfl ?_
  have S := Sub.refl w
  refine RC.seq ?_
  refine RC.region rfl ?_
  refine RL.box rfl rfl rfl (fun b_3 w_3 e_3 z_3 hb_3 s_3 => ?_)
  have ge_3 := S.le e_3
  have S := S.trans s_3
  have hb_3 : Has w_3 b_3 ([.int .i64 o.box, .int .i64 o.kind, .int .i64 o.a, .int .i64 o.b]) _ := hb_3
  refine RL.ev (.assign rfl) rfl rfl ?_
  refine RL.alloc ze39 rfl rfl (fun b_5 w_5 e_5 z_5 hb_5 s_5 => ?_)
  have ge_5 := S.le e_5
  have n_3__5 := hb_3.ne e_5
  have S := S.trans s_5
  have hb_3 := hb_3.sub s_5
  refine RL.nil (RC.back ?_)
  refine RC.seq ?_
  refine RC.region rfl ?_
  refine RL.ev (.move rfl) rfl rfl ?_
  refine RL.ev (.field0 fo34_2 rfl) rfl rfl ?_
  refine RL.ev (.load1 sh2 rfl (hb_3.cell rfl)) rfl rfl ?_
  refine RL.call rfl ok71 (c_bsf 72 ok72 o.a (fun x => cmpI x.k o.a) (c_pcmp o.a) l (fun i j x y hij hx hy h => by rw [cmpI_neg] at h ⊢; rcases Nat.lt_or_eq_of_le hij with q | q; have := srt_get hs q hx hy; omega; subst q; rw [hx] at hy; cases hy; exact h) a c _ rfl w_5 (hl.sub S) (by omega)) rfl rfl ?_
  rintro _ w1 ⟨s2, n', hn1, rfl, hn2, hn3⟩
  have S := S.trans s2
  have hb_3 := hb_3.sub s2
  have hb_5 := hb_5.sub s2
  have hnn : n' = n := (by rw [hn]; exact (part_lt hn1 (fun k x h1 h2 => cmpI_neg.1 (hn2 k x h1 h2)) (fun k x h1 h2 h3 => hn3 k x h1 h2 (cmpI_neg.2 h3))).2.symm)
  subst hnn
  have hbi : pB (∃ x, l[n']? = some x ∧ cmpI x.k o.a = 0) = is := (by rw [Bool.eq_iff_iff, pB_iff, g0]; exact ⟨fun ⟨x, h1, h2⟩ => ⟨x, h1, cmpI_zero.1 h2⟩, fun ⟨x, h1, h2⟩ => ⟨x, h1, cmpI_zero.2 h2⟩⟩)
  rw [hbi]
  refine RL.ev (.move rfl) rfl rfl ?_
  refine RL.ev (.extract rfl rfl) rfl rfl ?_
  refine RL.ev (.as (v' := .bool is) (.extract rfl rfl) (by rfl)) rfl rfl ?_
  refine RL.ev (.assign rfl) rfl rfl ?_
  refine RL.ev (.assign rfl) rfl rfl ?_
  refine RL.nil (RC.back ?_)
  refine RC.seq ?_
  refine RC.seq ?_
  refine RC.region rfl ?_
  refine RL.ev (.field0 fo34_1 rfl) rfl rfl ?_
  refine RL.ev (.load1 sh3 rfl (hb_3.cell rfl)) rfl rfl ?_
  refine RL.nil (RC.back ?_)
  refine RC.block ?_
  refine RC.seq ?_
  refine RC.seq ?_
  refine RC.region rfl ?_
  refine RL.ev (.bin rfl rfl rfl) rfl rfl ?_
  refine RL.ev (.assign rfl) rfl rfl ?_
  refine RL.nil (RC.back ?_)
  refine RC.cond_dec rfl (fun h3 => ?_) (fun h3 => ?_)
  ·
    have k20 := h3
    refine RC.skip (RC.back ?_)
    refine RC.cond_dec rfl (fun h4 => ?_) (fun h4 => absurd h3 h4)
    refine RC.seq ?_
    refine RC.seq ?_
    refine RC.region rfl ?_
    refine RL.ev (.move rfl) rfl rfl ?_
    refine RL.ev (.not rfl) rfl rfl ?_
    refine RL.nil (RC.back ?_)
    refine RC.cond rfl (fun h5 => ?_) (fun h5 => ?_)
    ·
      have is0 : is = false := (by simpa using h5)
      refine RC.seq ?_
      refine RC.region rfl ?_
      refine RL.ev (.move rfl) rfl rfl ?_
      refine RL.call rfl ok73 (c_none w1) rfl rfl ?_
      rintro _ w6 ⟨rfl, s7⟩
      have S := S.trans s7
      have hb_3 := hb_3.sub s7
      have hb_5 := hb_5.sub s7
      refine RL.ev (.assign rfl) rfl rfl ?_
      refine RL.store sh39 rfl rfl rfl hb_5 (by exact Nat.le_of_ble_eq_true rfl) (by rfl) rfl (fun w8 z8 hb_5 a8 => ?_)
      have S := S.upd a8 ge_5
      have hb_3 := hb_3.upd a8 n_3__5
      have hb_5 : Has w8 b_5 ([.int .i64 3, .int .i64 0, .int .i64 0]) _ := hb_5.now (by kernel_rfl)
      refine RL.nil (RC.back ?_)
      refine RC.done (rs := [.tmp 4, .cell 5 39]) (vs := [_, _]) rfl rfl ⟨rfl, ⟨_, rfl, .inr ⟨[.int .i64 3, .int .i64 0, .int .i64 0], sh39, hb_5.row, rfl⟩⟩, trivial⟩ ?_
      -- end 1
      have he : pairsM l o = (l, ⟨3, 0, 0⟩) := (by rw [hdef, if_neg (by omega), if_neg (by omega), if_neg (by omega), if_neg (by omega), if_pos is0])
      rw [he]
      exact ⟨S, _, _, M, rfl, hc, hF.sub S, Up.refl _ _⟩
    ·
      have is1 : is = true := (by simpa using h5)
      obtain ⟨x, hx, hxk⟩ := g0.1 is1
      have hnl := lt_of_get hx
      have hva := valAt_get hx
      refine RC.skip (RC.back ?_)
      refine RC.seq ?_
      refine RC.region rfl ?_
      refine RL.ev (.move rfl) rfl rfl ?_
      refine RL.ev (.move rfl) rfl rfl ?_
      refine RL.ev (.indexS sl22 rfl rfl (by omega) (hl.is (i := 0) (by simp only [List.length_map, List.length_cons, List.length_nil]; omega))) rfl rfl ?_
      refine RL.ev (.fieldA fo45_1 rfl) rfl rfl ?_
      refine RL.ev (.load1 sh2 rfl ((hl.sub S).cell (enc := It.cells) (j := 1) hx rfl)) rfl rfl ?_
      refine RL.ev (.buildS ze39 pl39 rfl rfl) rfl rfl ?_
      refine RL.alloc ze39 rfl rfl (fun b_8 w_8 e_8 z_8 hb_8 s_8 => ?_)
      have ge_8 := S.le e_8
      have n_3__8 := hb_3.ne e_8
      have n_5__8 := hb_5.ne e_8
      have S := S.trans s_8
      have hb_3 := hb_3.sub s_8
      have hb_5 := hb_5.sub s_8
      refine RL.store sh39 rfl rfl rfl hb_8 (by exact Nat.le_of_ble_eq_true rfl) (by rfl) rfl (fun w9 z9 hb_8 a9 => ?_)
      have S := S.upd a9 ge_8
      have hb_3 := hb_3.upd a9 n_3__8
      have hb_5 := hb_5.upd a9 n_5__8
      have hb_8 : Has w9 b_8 ([.int .i64 0, .int .i64 x.v, .int .i64 0]) _ := hb_8.now (by kernel_rfl)
      refine RL.nil (RC.back ?_)
      refine RC.seq ?_
      refine RC.seq ?_
      refine RC.region rfl ?_
      refine RL.ev (.field0 fo34_1 rfl) rfl rfl ?_
      refine RL.ev (.load1 sh3 rfl (hb_3.cell rfl)) rfl rfl ?_
      refine RL.ev (.bin rfl rfl rfl) rfl rfl ?_
      refine RL.nil (RC.back ?_)
      refine RC.cond_dec rfl (fun h10 => ?_) (fun h10 => ?_)
      ·
        have k35 := h10
        refine RC.region rfl ?_
        refine RL.ev (.move rfl) rfl rfl ?_
        refine RL.call rfl ok75 (c_clone l a c _ rfl w9 (hl.sub S) (by omega)) rfl rfl ?_
        rintro _ w11 ⟨a7, c7, rfl, o7, s12⟩
        have lt3 := hb_3.lt
        have lt5 := hb_5.lt
        have ltX := hb_8.lt
        have szS := S.size
        have S := S.trans s12
        have hb_3 := hb_3.sub s12
        have hb_5 := hb_5.sub s12
        have hb_8 := hb_8.sub s12
        obtain ⟨b_g, ex, e1, hbg, hb_g, hex, hcm⟩ := o7.whole.resolve_left (fun q => by have := congrArg List.length q.2; simp only [List.length_map, List.length_nil] at this; omega)
        rw [List.length_map] at e1 hcm
        injection e1 with f1 f2 f3
        subst f1 f3
        have ge_g : w.heap.size ≤ b_g := Nat.le_trans szS hbg
        have nb_3_b_g : b_3 ≠ b_g := by omega
        have nb_5_b_g : b_5 ≠ b_g := by omega
        have nb_8_b_g : b_8 ≠ b_g := by omega
        refine RL.ev (.move rfl) rfl rfl ?_
        refine RL.ev (.move rfl) rfl rfl ?_
        refine RL.ev (.as (.bin rfl rfl rfl) (wi64 (y := ((n' + 1 : Nat) : Int)) (by omega) (by omega))) rfl rfl ?_
        refine RL.call rfl ok74 (c_delete l b_g n' ex hex (Nat.le_trans hcm (by decide)) hnl w11 hb_g) rfl rfl ?_
        rintro _ w13 ⟨rfl, ⟨R41, hb_g, hR41, hT41⟩, a41⟩
        have S := S.upd a41 ge_g
        have hb_3 := hb_3.upd a41 nb_3_b_g
        have hb_5 := hb_5.upd a41 nb_5_b_g
        have hb_8 := hb_8.upd a41 nb_8_b_g
        refine RL.ev (.assign rfl) rfl rfl ?_
        refine RL.nil (RC.back ?_)
        refine RC.seq ?_
        refine RC.drawD (fun k => k = b_5) [3] w13.heap.size 4 rfl rfl mxo (fun w15 s16 => ?_)
        have hNN : ∀ k, ((k = b_5) ∨ w13.heap.size ≤ k) → w.heap.size ≤ k := fun k e => e.elim (fun e => e ▸ ge_5) (fun e => Nat.le_trans S.size e)
        have ent_S := S.size
        have hN0 : ∀ k, w13.heap.size ≤ k → w.heap.size ≤ k := fun k e => Nat.le_trans S.size e
        have ltD_b_3 := hb_3.lt
        have ltD_b_5 := hb_5.lt
        have ltD_b_8 := hb_8.lt
        have ltD_b_g := hb_g.lt
        have szD := Nat.le_refl w13.heap.size
        have S := S.trans s16
        have hb_3 := hb_3.sub s16
        have hb_5 := hb_5.sub s16
        have hb_8 := hb_8.sub s16
        have hb_g := hb_g.sub s16
        have szD := Nat.le_trans szD s16.size
        refine RD.take 0 rfl (by kernel_rfl) (by kernel_rfl) (by kernel_rfl) (fun w' s' => .move rfl) rfl rfl ?_
        refine RD.take 1 rfl (by kernel_rfl) (by kernel_rfl) (by kernel_rfl) (fun w' s' => .loadR ([.int .i64 0, .int .i64 x.v, .int .i64 0]) sh39 rfl (hb_8.step s' (fun e => e.elim (fun e => n_5__8.symm e) (fun e => Nat.not_le.2 ltD_b_8 e))).row rfl) rfl rfl ?_
        refine RD.take 2 rfl (by kernel_rfl) (by kernel_rfl) (by kernel_rfl) (fun w' s' => .assign rfl) rfl rfl ?_
        refine RD.all [3] (by kernel_rfl) rfl (RDs.cons rfl ?_ (RDs.nil))
        refine RL.store sh39 rfl rfl rfl hb_5 (by exact Nat.le_of_ble_eq_true rfl) (by rfl) rfl (fun w17 z17 hb_5 a17 => ?_)
        have S := S.upd a17 ge_5
        have hb_3 := hb_3.upd a17 n_3__5
        have hb_8 := hb_8.upd a17 n_5__8.symm
        have hb_g := hb_g.upd a17 nb_5_b_g.symm
        have szD := Nat.le_trans szD a17.size
        have hb_5 : Has w17 b_5 ([.int .i64 0, .int .i64 x.v, .int .i64 0]) _ := hb_5.now (by kernel_rfl)
        refine RD.backW rfl (a17.mono fun k _ e => e ▸ (.inl (rfl))) ?_
        refine RD.done (by kernel_rfl) (RC.back ?_)
        refine RC.done (rs := [.tmp 4, .cell 5 39]) (vs := [_, _]) rfl rfl ⟨rfl, ⟨_, rfl, .inr ⟨[.int .i64 0, .int .i64 x.v, .int .i64 0], sh39, hb_5.row, rfl⟩⟩, trivial⟩ ?_
        -- end 2
        exact absurd k35 (by omega)
      ·
        have k35 := h10
        refine RC.skip (RC.back ?_)
        refine RC.seq ?_
        refine RC.drawD (fun k => k = b_5) [3] w9.heap.size 4 rfl rfl mxo (fun w18 s19 => ?_)
        have hNN : ∀ k, ((k = b_5) ∨ w9.heap.size ≤ k) → w.heap.size ≤ k := fun k e => e.elim (fun e => e ▸ ge_5) (fun e => Nat.le_trans S.size e)
        have ent_S := S.size
        have hN0 : ∀ k, w9.heap.size ≤ k → w.heap.size ≤ k := fun k e => Nat.le_trans S.size e
        have ltD_b_3 := hb_3.lt
        have ltD_b_5 := hb_5.lt
        have ltD_b_8 := hb_8.lt
        have szD := Nat.le_refl w9.heap.size
        have S := S.trans s19
        have hb_3 := hb_3.sub s19
        have hb_5 := hb_5.sub s19
        have hb_8 := hb_8.sub s19
        have szD := Nat.le_trans szD s19.size
        refine RD.take 0 rfl (by kernel_rfl) (by kernel_rfl) (by kernel_rfl) (fun w' s' => .move rfl) rfl rfl ?_
        refine RD.take 1 rfl (by kernel_rfl) (by kernel_rfl) (by kernel_rfl) (fun w' s' => .loadR ([.int .i64 0, .int .i64 x.v, .int .i64 0]) sh39 rfl (hb_8.step s' (fun e => e.elim (fun e => n_5__8.symm e) (fun e => Nat.not_le.2 ltD_b_8 e))).row rfl) rfl rfl ?_
        refine RD.take 2 rfl (by kernel_rfl) (by kernel_rfl) (by kernel_rfl) (fun w' s' => .assign rfl) rfl rfl ?_
        refine RD.all [3] (by kernel_rfl) rfl (RDs.cons rfl ?_ (RDs.nil))
        refine RL.store sh39 rfl rfl rfl hb_5 (by exact Nat.le_of_ble_eq_true rfl) (by rfl) rfl (fun w20 z20 hb_5 a20 => ?_)
        have S := S.upd a20 ge_5
        have hb_3 := hb_3.upd a20 n_3__5
        have hb_8 := hb_8.upd a20 n_5__8.symm
        have szD := Nat.le_trans szD a20.size
        have hb_5 : Has w20 b_5 ([.int .i64 0, .int .i64 x.v, .int .i64 0]) _ := hb_5.now (by kernel_rfl)
        refine RD.backW rfl (a20.mono fun k _ e => e ▸ (.inl (rfl))) ?_
        refine RD.done (by kernel_rfl) (RC.back ?_)
        refine RC.done (rs := [.tmp 4, .cell 5 39]) (vs := [_, _]) rfl rfl ⟨rfl, ⟨_, rfl, .inr ⟨[.int .i64 0, .int .i64 x.v, .int .i64 0], sh39, hb_5.row, rfl⟩⟩, trivial⟩ ?_
        -- end 3
        have he : pairsM l o = (l, ⟨0, x.v, 0⟩) := (by rw [hdef, if_neg (by omega), if_neg (by omega), if_neg (by omega), if_neg (by omega), if_neg (by rw [is1]; simp), if_neg k35, hva])
        rw [he]
        exact ⟨S, _, _, M, rfl, hc, hF.sub S, Up.refl _ _⟩
  ·
    have n20 := h3
    refine RC.region rfl ?_
    refine RL.ev (.bin rfl rfl rfl) rfl rfl ?_
    refine RL.ev (.assign rfl) rfl rfl ?_
    refine RL.nil (RC.back ?_)
    refine RC.cond_dec rfl (fun h21 => ?_) (fun h21 => ?_)
    ·
      have k20 := h21
      refine RC.seq ?_
      refine RC.seq ?_
      refine RC.region rfl ?_
      refine RL.ev (.move rfl) rfl rfl ?_
      refine RL.ev (.not rfl) rfl rfl ?_
      refine RL.nil (RC.back ?_)
      refine RC.cond rfl (fun h22 => ?_) (fun h22 => ?_)
      ·
        have is0 : is = false := (by simpa using h22)
        refine RC.seq ?_
        refine RC.region rfl ?_
        refine RL.ev (.move rfl) rfl rfl ?_
        refine RL.call rfl ok73 (c_none w1) rfl rfl ?_
        rintro _ w23 ⟨rfl, s24⟩
        have S := S.trans s24
        have hb_3 := hb_3.sub s24
        have hb_5 := hb_5.sub s24
        refine RL.ev (.assign rfl) rfl rfl ?_
        refine RL.store sh39 rfl rfl rfl hb_5 (by exact Nat.le_of_ble_eq_true rfl) (by rfl) rfl (fun w25 z25 hb_5 a25 => ?_)
        have S := S.upd a25 ge_5
        have hb_3 := hb_3.upd a25 n_3__5
        have hb_5 : Has w25 b_5 ([.int .i64 3, .int .i64 0, .int .i64 0]) _ := hb_5.now (by kernel_rfl)
        refine RL.nil (RC.back ?_)
        refine RC.done (rs := [.tmp 4, .cell 5 39]) (vs := [_, _]) rfl rfl ⟨rfl, ⟨_, rfl, .inr ⟨[.int .i64 3, .int .i64 0, .int .i64 0], sh39, hb_5.row, rfl⟩⟩, trivial⟩ ?_
        -- end 4
        have he : pairsM l o = (l, ⟨3, 0, 0⟩) := (by rw [hdef, if_neg (by omega), if_neg (by omega), if_neg (by omega), if_neg (by omega), if_pos is0])
        rw [he]
        exact ⟨S, _, _, M, rfl, hc, hF.sub S, Up.refl _ _⟩
      ·
        have is1 : is = true := (by simpa using h22)
        obtain ⟨x, hx, hxk⟩ := g0.1 is1
        have hnl := lt_of_get hx
        have hva := valAt_get hx
        refine RC.skip (RC.back ?_)
        refine RC.seq ?_
        refine RC.region rfl ?_
        refine RL.ev (.move rfl) rfl rfl ?_
        refine RL.ev (.move rfl) rfl rfl ?_
        refine RL.ev (.indexS sl22 rfl rfl (by omega) (hl.is (i := 0) (by simp only [List.length_map, List.length_cons, List.length_nil]; omega))) rfl rfl ?_
        refine RL.ev (.fieldA fo45_1 rfl) rfl rfl ?_
        refine RL.ev (.load1 sh2 rfl ((hl.sub S).cell (enc := It.cells) (j := 1) hx rfl)) rfl rfl ?_
        refine RL.ev (.buildS ze39 pl39 rfl rfl) rfl rfl ?_
        refine RL.alloc ze39 rfl rfl (fun b_8 w_8 e_8 z_8 hb_8 s_8 => ?_)
        have ge_8 := S.le e_8
        have n_3__8 := hb_3.ne e_8
        have n_5__8 := hb_5.ne e_8
        have S := S.trans s_8
        have hb_3 := hb_3.sub s_8
        have hb_5 := hb_5.sub s_8
        refine RL.store sh39 rfl rfl rfl hb_8 (by exact Nat.le_of_ble_eq_true rfl) (by rfl) rfl (fun w26 z26 hb_8 a26 => ?_)
        have S := S.upd a26 ge_8
        have hb_3 := hb_3.upd a26 n_3__8
        have hb_5 := hb_5.upd a26 n_5__8
        have hb_8 : Has w26 b_8 ([.int .i64 0, .int .i64 x.v, .int .i64 0]) _ := hb_8.now (by kernel_rfl)
        refine RL.nil (RC.back ?_)
        refine RC.seq ?_
        refine RC.seq ?_
        refine RC.region rfl ?_
        refine RL.ev (.field0 fo34_1 rfl) rfl rfl ?_
        refine RL.ev (.load1 sh3 rfl (hb_3.cell rfl)) rfl rfl ?_
        refine RL.ev (.bin rfl rfl rfl) rfl rfl ?_
        refine RL.nil (RC.back ?_)
        refine RC.cond_dec rfl (fun h27 => ?_) (fun h27 => ?_)
        ·
          have k35 := h27
          refine RC.region rfl ?_
          refine RL.ev (.move rfl) rfl rfl ?_
          refine RL.call rfl ok75 (c_clone l a c _ rfl w26 (hl.sub S) (by omega)) rfl rfl ?_
          rintro _ w28 ⟨a7, c7, rfl, o7, s29⟩
          have lt3 := hb_3.lt
          have lt5 := hb_5.lt
          have ltX := hb_8.lt
          have szS := S.size
          have S := S.trans s29
          have hb_3 := hb_3.sub s29
          have hb_5 := hb_5.sub s29
          have hb_8 := hb_8.sub s29
          obtain ⟨b_g, ex, e1, hbg, hb_g, hex, hcm⟩ := o7.whole.resolve_left (fun q => by have := congrArg List.length q.2; simp only [List.length_map, List.length_nil] at this; omega)
          rw [List.length_map] at e1 hcm
          injection e1 with f1 f2 f3
          subst f1 f3
          have ge_g : w.heap.size ≤ b_g := Nat.le_trans szS hbg
          have nb_3_b_g : b_3 ≠ b_g := by omega
          have nb_5_b_g : b_5 ≠ b_g := by omega
          have nb_8_b_g : b_8 ≠ b_g := by omega
          refine RL.ev (.move rfl) rfl rfl ?_
          refine RL.ev (.move rfl) rfl rfl ?_
          refine RL.ev (.as (.bin rfl rfl rfl) (wi64 (y := ((n' + 1 : Nat) : Int)) (by omega) (by omega))) rfl rfl ?_
          refine RL.call rfl ok74 (c_delete l b_g n' ex hex (Nat.le_trans hcm (by decide)) hnl w28 hb_g) rfl rfl ?_
          rintro _ w30 ⟨rfl, ⟨R41, hb_g, hR41, hT41⟩, a41⟩
          have S := S.upd a41 ge_g
          have hb_3 := hb_3.upd a41 nb_3_b_g
          have hb_5 := hb_5.upd a41 nb_5_b_g
          have hb_8 := hb_8.upd a41 nb_8_b_g
          refine RL.ev (.assign rfl) rfl rfl ?_
          refine RL.nil (RC.back ?_)
          refine RC.seq ?_
          refine RC.drawD (fun k => k = b_5) [3] w30.heap.size 4 rfl rfl mxo (fun w32 s33 => ?_)
          have hNN : ∀ k, ((k = b_5) ∨ w30.heap.size ≤ k) → w.heap.size ≤ k := fun k e => e.elim (fun e => e ▸ ge_5) (fun e => Nat.le_trans S.size e)
          have ent_S := S.size
          have hN0 : ∀ k, w30.heap.size ≤ k → w.heap.size ≤ k := fun k e => Nat.le_trans S.size e
          have ltD_b_3 := hb_3.lt
          have ltD_b_5 := hb_5.lt
          have ltD_b_8 := hb_8.lt
          have ltD_b_g := hb_g.lt
          have szD := Nat.le_refl w30.heap.size
          have S := S.trans s33
          have hb_3 := hb_3.sub s33
          have hb_5 := hb_5.sub s33
          have hb_8 := hb_8.sub s33
          have hb_g := hb_g.sub s33
          have szD := Nat.le_trans szD s33.size
          refine RD.take 0 rfl (by kernel_rfl) (by kernel_rfl) (by kernel_rfl) (fun w' s' => .move rfl) rfl rfl ?_
          refine RD.take 1 rfl (by kernel_rfl) (by kernel_rfl) (by kernel_rfl) (fun w' s' => .loadR ([.int .i64 0, .int .i64 x.v, .int .i64 0]) sh39 rfl (hb_8.step s' (fun e => e.elim (fun e => n_5__8.symm e) (fun e => Nat.not_le.2 ltD_b_8 e))).row rfl) rfl rfl ?_
          refine RD.take 2 rfl (by kernel_rfl) (by kernel_rfl) (by kernel_rfl) (fun w' s' => .assign rfl) rfl rfl ?_
          refine RD.all [3] (by kernel_rfl) rfl (RDs.cons rfl ?_ (RDs.nil))
          refine RL.store sh39 rfl rfl rfl hb_5 (by exact Nat.le_of_ble_eq_true rfl) (by rfl) rfl (fun w34 z34 hb_5 a34 => ?_)
          have S := S.upd a34 ge_5
          have hb_3 := hb_3.upd a34 n_3__5
          have hb_8 := hb_8.upd a34 n_5__8.symm
          have hb_g := hb_g.upd a34 nb_5_b_g.symm
          have szD := Nat.le_trans szD a34.size
          have hb_5 : Has w34 b_5 ([.int .i64 0, .int .i64 x.v, .int .i64 0]) _ := hb_5.now (by kernel_rfl)
          refine RD.backW rfl (a34.mono fun k _ e => e ▸ (.inl (rfl))) ?_
          refine RD.done (by kernel_rfl) (RC.back ?_)
          refine RC.done (rs := [.tmp 4, .cell 5 39]) (vs := [_, _]) rfl rfl ⟨rfl, ⟨_, rfl, .inr ⟨[.int .i64 0, .int .i64 x.v, .int .i64 0], sh39, hb_5.row, rfl⟩⟩, trivial⟩ ?_
          -- end 5
          have he : pairsM l o = (l.take n' ++ l.drop (n' + 1), ⟨0, x.v, 0⟩) := (by rw [hdef, if_neg (by omega), if_neg (by omega), if_neg (by omega), if_neg (by omega), if_neg (by rw [is1]; simp), if_pos k35, hva, del_has hs hx hxk])
          rw [he]
          exact ⟨S, _, _, (· = b_g), by rw [show (l.take n' ++ l.drop (n' + 1)).length = l.length - 1 from by rw [List.length_append, List.length_take, List.length_drop]; omega]; rfl, by rw [List.length_append, List.length_take, List.length_drop]; omega, (by have q := (Has.ftW hb_g).imp (fun u h => Has.slN h hR41 (l.length - 1)); rw [hT41] at q; exact q), fun k hk => .inr (by rw [hk]; exact ge_g)⟩
        ·
          have k35 := h27
          refine RC.skip (RC.back ?_)
          refine RC.seq ?_
          refine RC.drawD (fun k => k = b_5) [3] w26.heap.size 4 rfl rfl mxo (fun w35 s36 => ?_)
          have hNN : ∀ k, ((k = b_5) ∨ w26.heap.size ≤ k) → w.heap.size ≤ k := fun k e => e.elim (fun e => e ▸ ge_5) (fun e => Nat.le_trans S.size e)
          have ent_S := S.size
          have hN0 : ∀ k, w26.heap.size ≤ k → w.heap.size ≤ k := fun k e => Nat.le_trans S.size e
          have ltD_b_3 := hb_3.lt
          have ltD_b_5 := hb_5.lt
          have ltD_b_8 := hb_8.lt
          have szD := Nat.le_refl w26.heap.size
          have S := S.trans s36
          have hb_3 := hb_3.sub s36
          have hb_5 := hb_5.sub s36
          have hb_8 := hb_8.sub s36
          have szD := Nat.le_trans szD s36.size
          refine RD.take 0 rfl (by kernel_rfl) (by kernel_rfl) (by kernel_rfl) (fun w' s' => .move rfl) rfl rfl ?_
          refine RD.take 1 rfl (by kernel_rfl) (by kernel_rfl) (by kernel_rfl) (fun w' s' => .loadR ([.int .i64 0, .int .i64 x.v, .int .i64 0]) sh39 rfl (hb_8.step s' (fun e => e.elim (fun e => n_5__8.symm e) (fun e => Nat.not_le.2 ltD_b_8 e))).row rfl) rfl rfl ?_
          refine RD.take 2 rfl (by kernel_rfl) (by kernel_rfl) (by kernel_rfl) (fun w' s' => .assign rfl) rfl rfl ?_
          refine RD.all [3] (by kernel_rfl) rfl (RDs.cons rfl ?_ (RDs.nil))
          refine RL.store sh39 rfl rfl rfl hb_5 (by exact Nat.le_of_ble_eq_true rfl) (by rfl) rfl (fun w37 z37 hb_5 a37 => ?_)
          have S := S.upd a37 ge_5
          have hb_3 := hb_3.upd a37 n_3__5
          have hb_8 := hb_8.upd a37 n_5__8.symm
          have szD := Nat.le_trans szD a37.size
          have hb_5 : Has w37 b_5 ([.int .i64 0, .int .i64 x.v, .int .i64 0]) _ := hb_5.now (by kernel_rfl)
          refine RD.backW rfl (a37.mono fun k _ e => e ▸ (.inl (rfl))) ?_
          refine RD.done (by kernel_rfl) (RC.back ?_)
          refine RC.done (rs := [.tmp 4, .cell 5 39]) (vs := [_, _]) rfl rfl ⟨rfl, ⟨_, rfl, .inr ⟨[.int .i64 0, .int .i64 x.v, .int .i64 0], sh39, hb_5.row, rfl⟩⟩, trivial⟩ ?_
          -- end 6
          exact absurd k20 (by omega)
    ·
      have n20 := h21
      refine RC.seq ?_
      refine RC.region rfl ?_
      refine RL.ev (.bin rfl rfl rfl) rfl rfl ?_
      refine RL.ev (.assign rfl) rfl rfl ?_
      refine RL.nil (RC.back ?_)
      refine RC.cond_dec rfl (fun h38 => ?_) (fun h38 => ?_)
      ·
        have k44 := h38
        refine RC.seq ?_
        refine RC.region rfl ?_
        refine RL.ev (.field0 fo34_2 rfl) rfl rfl ?_
        refine RL.ev (.load1 sh2 rfl (hb_3.cell rfl)) rfl rfl ?_
        refine RL.ev (.field0 fo34_3 rfl) rfl rfl ?_
        refine RL.ev (.load1 sh2 rfl (hb_3.cell rfl)) rfl rfl ?_
        refine RL.ev (.buildS ze45 pl45 rfl rfl) rfl rfl ?_
        refine RL.alloc ze45 rfl rfl (fun b_9 w_9 e_9 z_9 hb_9 s_9 => ?_)
        have ge_9 := S.le e_9
        have n_3__9 := hb_3.ne e_9
        have n_5__9 := hb_5.ne e_9
        have S := S.trans s_9
        have hb_3 := hb_3.sub s_9
        have hb_5 := hb_5.sub s_9
        refine RL.store sh45 rfl rfl rfl hb_9 (by exact Nat.le_of_ble_eq_true rfl) (by rfl) rfl (fun w39 z39 hb_9 a39 => ?_)
        have S := S.upd a39 ge_9
        have hb_3 := hb_3.upd a39 n_3__9
        have hb_5 := hb_5.upd a39 n_5__9
        have hb_9 : Has w39 b_9 ([.int .i64 o.a, .int .i64 o.b]) _ := hb_9.now (by kernel_rfl)
        refine RL.nil (RC.back ?_)
        refine RC.seq ?_
        refine RC.seq ?_
        refine RC.region rfl ?_
        refine RL.ev (.move rfl) rfl rfl ?_
        refine RL.nil (RC.back ?_)
        refine RC.cond rfl (fun h40 => ?_) (fun h40 => ?_)
        ·
          have is1 : is = true := h40
          obtain ⟨x, hx, hxk⟩ := g0.1 is1
          have hnl := lt_of_get hx
          have hva := valAt_get hx
          refine RC.seq ?_
          refine RC.region rfl ?_
          refine RL.ev (.move rfl) rfl rfl ?_
          refine RL.ev (.move rfl) rfl rfl ?_
          refine RL.ev (.indexS sl22 rfl rfl (by omega) (hl.is (i := 0) (by simp only [List.length_map, List.length_cons, List.length_nil]; omega))) rfl rfl ?_
          refine RL.ev (.fieldA fo45_1 rfl) rfl rfl ?_
          refine RL.ev (.load1 sh2 rfl ((hl.sub S).cell (enc := It.cells) (j := 1) hx rfl)) rfl rfl ?_
          refine RL.ev (.buildS ze39 pl39 rfl rfl) rfl rfl ?_
          refine RL.alloc ze39 rfl rfl (fun b_10 w_10 e_10 z_10 hb_10 s_10 => ?_)
          have ge_10 := S.le e_10
          have n_3__10 := hb_3.ne e_10
          have n_5__10 := hb_5.ne e_10
          have n_9__10 := hb_9.ne e_10
          have S := S.trans s_10
          have hb_3 := hb_3.sub s_10
          have hb_5 := hb_5.sub s_10
          have hb_9 := hb_9.sub s_10
          refine RL.store sh39 rfl rfl rfl hb_10 (by exact Nat.le_of_ble_eq_true rfl) (by rfl) rfl (fun w41 z41 hb_10 a41 => ?_)
          have S := S.upd a41 ge_10
          have hb_3 := hb_3.upd a41 n_3__10
          have hb_5 := hb_5.upd a41 n_5__10
          have hb_9 := hb_9.upd a41 n_9__10
          have hb_10 : Has w41 b_10 ([.int .i64 0, .int .i64 1, .int .i64 x.v]) _ := hb_10.now (by kernel_rfl)
          refine RL.nil (RC.back ?_)
          refine RC.seq ?_
          refine RC.region rfl ?_
          refine RL.ev (.move rfl) rfl rfl ?_
          refine RL.call rfl ok75 (c_clone l a c _ rfl w41 (hl.sub S) (by omega)) rfl rfl ?_
          rintro _ w42 ⟨a7, c7, rfl, o7, s43⟩
          have lt3 := hb_3.lt
          have lt5 := hb_5.lt
          have lt9 := hb_9.lt
          have ltX := hb_10.lt
          have szS := S.size
          have S := S.trans s43
          have hb_3 := hb_3.sub s43
          have hb_5 := hb_5.sub s43
          have hb_9 := hb_9.sub s43
          have hb_10 := hb_10.sub s43
          obtain ⟨b_g, ex, e1, hbg, hb_g, hex, hcm⟩ := o7.whole.resolve_left (fun q => by have := congrArg List.length q.2; simp only [List.length_map, List.length_nil] at this; omega)
          rw [List.length_map] at e1 hcm
          injection e1 with f1 f2 f3
          subst f1 f3
          have ge_g : w.heap.size ≤ b_g := Nat.le_trans szS hbg
          have nb_3_b_g : b_3 ≠ b_g := by omega
          have nb_5_b_g : b_5 ≠ b_g := by omega
          have nb_10_b_g : b_10 ≠ b_g := by omega
          have nb_9_b_g : b_9 ≠ b_g := by omega
          refine RL.ev (.assign rfl) rfl rfl ?_
          refine RL.nil (RC.back ?_)
          refine RC.seq ?_
          refine RC.region rfl ?_
          refine RL.ev (.move rfl) rfl rfl ?_
          refine RL.ev (.move rfl) rfl rfl ?_
          refine RL.ev (.loadR ([.int .i64 o.a, .int .i64 o.b]) sh45 rfl (hb_9.row) rfl) rfl rfl ?_
          refine RL.ev (.indexO sl22 rfl rfl (by omega)) rfl rfl ?_
          refine RL.store sh45 rfl rfl rfl hb_g (by have q := flat_len (l.map It.cells ++ ex) (fun r hr => (List.mem_append.1 hr).elim (it_rows r) (hex r)); rw [q, List.length_append, List.length_map]; show 0 + n' * 2 + 2 ≤ _; omega) (by rfl) rfl (fun w44 z44 hb_g a44 => ?_)
          have S := S.upd a44 ge_g
          have hb_3 := hb_3.upd a44 nb_3_b_g
          have hb_5 := hb_5.upd a44 nb_5_b_g
          have hb_9 := hb_9.upd a44 nb_9_b_g
          have hb_10 := hb_10.upd a44 nb_10_b_g
          rw [Nat.zero_add] at hb_g
          have hrw : ∀ r ∈ l.map It.cells ++ ex, r.length = 2 := (fun r hr => (List.mem_append.1 hr).elim (it_rows r) (hex r))
          have hb_g := row_set0 (sz := 2) (i := n') hb_g hrw (by rw [List.length_append, List.length_map]; omega) rfl
          refine RL.nil (RC.back ?_)
          refine RC.seq ?_
          refine RC.drawD (fun k => k = b_5) [3] w44.heap.size 4 rfl rfl mxo (fun w45 s46 => ?_)
          have hNN : ∀ k, ((k = b_5) ∨ w44.heap.size ≤ k) → w.heap.size ≤ k := fun k e => e.elim (fun e => e ▸ ge_5) (fun e => Nat.le_trans S.size e)
          have ent_S := S.size
          have hN0 : ∀ k, w44.heap.size ≤ k → w.heap.size ≤ k := fun k e => Nat.le_trans S.size e
          have ltD_b_3 := hb_3.lt
          have ltD_b_5 := hb_5.lt
          have ltD_b_9 := hb_9.lt
          have ltD_b_10 := hb_10.lt
          have ltD_b_g := hb_g.lt
          have szD := Nat.le_refl w44.heap.size
          have S := S.trans s46
          have hb_3 := hb_3.sub s46
          have hb_5 := hb_5.sub s46
          have hb_9 := hb_9.sub s46
          have hb_10 := hb_10.sub s46
          have hb_g := hb_g.sub s46
          have szD := Nat.le_trans szD s46.size
          refine RD.take 0 rfl (by kernel_rfl) (by kernel_rfl) (by kernel_rfl) (fun w' s' => .move rfl) rfl rfl ?_
          refine RD.take 1 rfl (by kernel_rfl) (by kernel_rfl) (by kernel_rfl) (fun w' s' => .loadR ([.int .i64 0, .int .i64 1, .int .i64 x.v]) sh39 rfl (hb_10.step s' (fun e => e.elim (fun e => n_5__10.symm e) (fun e => Nat.not_le.2 ltD_b_10 e))).row rfl) rfl rfl ?_
          refine RD.take 2 rfl (by kernel_rfl) (by kernel_rfl) (by kernel_rfl) (fun w' s' => .assign rfl) rfl rfl ?_
          refine RD.all [3] (by kernel_rfl) rfl (RDs.cons rfl ?_ (RDs.nil))
          refine RL.store sh39 rfl rfl rfl hb_5 (by exact Nat.le_of_ble_eq_true rfl) (by rfl) rfl (fun w47 z47 hb_5 a47 => ?_)
          have S := S.upd a47 ge_5
          have hb_3 := hb_3.upd a47 n_3__5
          have hb_9 := hb_9.upd a47 n_5__9.symm
          have hb_10 := hb_10.upd a47 n_5__10.symm
          have hb_g := hb_g.upd a47 nb_5_b_g.symm
          have szD := Nat.le_trans szD a47.size
          have hb_5 : Has w47 b_5 ([.int .i64 0, .int .i64 1, .int .i64 x.v]) _ := hb_5.now (by kernel_rfl)
          refine RD.backW rfl (a47.mono fun k _ e => e ▸ (.inl (rfl))) ?_
          refine RD.done (by kernel_rfl) (RC.back ?_)
          refine RC.done (rs := [.tmp 4, .cell 5 39]) (vs := [_, _]) rfl rfl ⟨rfl, ⟨_, rfl, .inr ⟨[.int .i64 0, .int .i64 1, .int .i64 x.v], sh39, hb_5.row, rfl⟩⟩, trivial⟩ ?_
          -- end 7
          have hst : (l.map It.cells ++ ex).set n' [.int .i64 o.a, .int .i64 o.b] = (l.set n' ⟨o.a, o.b⟩).map It.cells ++ ex := (by rw [List.set_append_left _ _ (by rw [List.length_map]; exact hnl), List.map_set]; rfl)
          have he : pairsM l o = (l.set n' ⟨o.a, o.b⟩, ⟨0, 1, x.v⟩) := (by rw [hdef, if_neg (by omega), if_pos k44, if_neg (by rw [is1]; simp), if_pos is1, hva, put_has hs hx hxk, List.set_eq_take_append_cons_drop, if_pos hnl])
          rw [he]
          exact ⟨S, _, _, (· = b_g), by rw [List.length_set]; rfl, by rw [List.length_set]; omega, (by have q : Has _ b_g ((l.map It.cells ++ ex).set n' [.int .i64 o.a, .int .i64 o.b]).flatten _ := hb_g; rw [hst] at q; exact (Has.ftW q).imp (fun u h => wh_sl h)), fun k hk => .inr (by rw [hk]; exact ge_g)⟩
        ·
          have is0 : is = false := h40
          refine RC.skip (RC.back ?_)
          refine RC.seq ?_
          refine RC.seq ?_
          refine RC.region rfl ?_
          refine RL.ev (.move rfl) rfl rfl ?_
          refine RL.ev (.len sl22 rfl) rfl rfl ?_
          refine RL.ev (.bin rfl rfl rfl) rfl rfl ?_
          refine RL.ev (.move rfl) rfl rfl ?_
          refine RL.split 69 rfl (fun h48 => ?_) (fun h48 => ?_)
          ·
            have g69 : 200 ≤ l.length := (by omega)
            refine RL.off rfl rfl ?_
            refine RL.off rfl rfl ?_
            refine RL.off rfl rfl ?_
            refine RL.off rfl rfl ?_
            refine RL.off rfl rfl ?_
            refine RL.off rfl rfl ?_
            refine RL.off rfl rfl ?_
            refine RL.off rfl rfl ?_
            refine RL.off rfl rfl ?_
            refine RL.off rfl rfl ?_
            refine RL.ev (.pick_t rfl rfl) rfl rfl ?_
            refine RL.nil (RC.back ?_)
            refine RC.cond_t rfl ?_
            refine RC.seq ?_
            refine RC.region rfl ?_
            refine RL.ev (.move rfl) rfl rfl ?_
            refine RL.call rfl ok76 (c_full w39) rfl rfl ?_
            rintro _ w49 ⟨rfl, s50⟩
            have S := S.trans s50
            have hb_3 := hb_3.sub s50
            have hb_5 := hb_5.sub s50
            have hb_9 := hb_9.sub s50
            refine RL.ev (.assign rfl) rfl rfl ?_
            refine RL.store sh39 rfl rfl rfl hb_5 (by exact Nat.le_of_ble_eq_true rfl) (by rfl) rfl (fun w51 z51 hb_5 a51 => ?_)
            have S := S.upd a51 ge_5
            have hb_3 := hb_3.upd a51 n_3__5
            have hb_9 := hb_9.upd a51 n_5__9.symm
            have hb_5 : Has w51 b_5 ([.int .i64 5, .int .i64 0, .int .i64 0]) _ := hb_5.now (by kernel_rfl)
            refine RL.nil (RC.back ?_)
            refine RC.done (rs := [.tmp 4, .cell 5 39]) (vs := [_, _]) rfl rfl ⟨rfl, ⟨_, rfl, .inr ⟨[.int .i64 5, .int .i64 0, .int .i64 0], sh39, hb_5.row, rfl⟩⟩, trivial⟩ ?_
            -- end 8
            have he : pairsM l o = (l, ⟨5, 0, 0⟩) := (by rw [hdef, if_neg (by omega), if_pos k44, if_pos ⟨is0, .inl g69⟩])
            rw [he]
            exact ⟨S, _, _, M, rfl, hc, hF.sub S, Up.refl _ _⟩
          ·
            have g69 : ¬ 200 ≤ l.length := (by omega)
            refine RL.ev (.field0 fo34_0 rfl) rfl rfl ?_
            refine RL.ev (.load1 sh3 rfl (hb_3.cell rfl)) rfl rfl ?_
            refine RL.ev (.bin rfl rfl rfl) rfl rfl ?_
            refine RL.ev (.move rfl) rfl rfl ?_
            refine RL.split 73 rfl (fun h52 => ?_) (fun h52 => ?_)
            ·
              have g73 : o.box = 2 := h52
              refine RL.ev (.move rfl) rfl rfl ?_
              refine RL.ev (.field0 fo34_2 rfl) rfl rfl ?_
              refine RL.ev (.load1 sh2 rfl (hb_3.cell rfl)) rfl rfl ?_
              refine RL.call rfl ok40 (c_crowd l a c _ rfl o.a w39 (hl.sub S) (by omega)) rfl rfl ?_
              rintro _ w53 ⟨rfl, s54⟩
              have S := S.trans s54
              have hb_3 := hb_3.sub s54
              have hb_5 := hb_5.sub s54
              have hb_9 := hb_9.sub s54
              refine RL.ev (.bin rfl rfl rfl) rfl rfl ?_
              refine RL.ev (.pick_t rfl rfl) rfl rfl ?_
              refine RL.ev (.pick_f rfl rfl) rfl rfl ?_
              refine RL.nil (RC.back ?_)
              refine RC.cond_dec rfl (fun h55 => ?_) (fun h55 => ?_)
              ·
                have g80 : 9 ≤ crowdL l o.a := (by omega)
                refine RC.seq ?_
                refine RC.region rfl ?_
                refine RL.ev (.move rfl) rfl rfl ?_
                refine RL.call rfl ok76 (c_full w53) rfl rfl ?_
                rintro _ w56 ⟨rfl, s57⟩
                have S := S.trans s57
                have hb_3 := hb_3.sub s57
                have hb_5 := hb_5.sub s57
                have hb_9 := hb_9.sub s57
                refine RL.ev (.assign rfl) rfl rfl ?_
                refine RL.store sh39 rfl rfl rfl hb_5 (by exact Nat.le_of_ble_eq_true rfl) (by rfl) rfl (fun w58 z58 hb_5 a58 => ?_)
                have S := S.upd a58 ge_5
                have hb_3 := hb_3.upd a58 n_3__5
                have hb_9 := hb_9.upd a58 n_5__9.symm
                have hb_5 : Has w58 b_5 ([.int .i64 5, .int .i64 0, .int .i64 0]) _ := hb_5.now (by kernel_rfl)
                refine RL.nil (RC.back ?_)
                refine RC.done (rs := [.tmp 4, .cell 5 39]) (vs := [_, _]) rfl rfl ⟨rfl, ⟨_, rfl, .inr ⟨[.int .i64 5, .int .i64 0, .int .i64 0], sh39, hb_5.row, rfl⟩⟩, trivial⟩ ?_
                -- end 9
                have he : pairsM l o = (l, ⟨5, 0, 0⟩) := (by rw [hdef, if_neg (by omega), if_pos k44, if_pos ⟨is0, .inr ⟨g73, g80⟩⟩])
                rw [he]
                exact ⟨S, _, _, M, rfl, hc, hF.sub S, Up.refl _ _⟩
              ·
                have g80 : ¬ 9 ≤ crowdL l o.a := (by omega)
                refine RC.skip (RC.back ?_)
                refine RC.seq ?_
                refine RC.drawD (fun k => k = b_5) [5, 8] w53.heap.size 9 rfl rfl mxo (fun w59 s60 => ?_)
                have hNN : ∀ k, ((k = b_5) ∨ w53.heap.size ≤ k) → w.heap.size ≤ k := fun k e => e.elim (fun e => e ▸ ge_5) (fun e => Nat.le_trans S.size e)
                have ent_S := S.size
                have hN0 : ∀ k, w53.heap.size ≤ k → w.heap.size ≤ k := fun k e => Nat.le_trans S.size e
                have ltD_b_3 := hb_3.lt
                have ltD_b_5 := hb_5.lt
                have ltD_b_9 := hb_9.lt
                have szD := Nat.le_refl w53.heap.size
                have S := S.trans s60
                have hb_3 := hb_3.sub s60
                have hb_5 := hb_5.sub s60
                have hb_9 := hb_9.sub s60
                have szD := Nat.le_trans szD s60.size
                refine RD.take 0 rfl (by kernel_rfl) (by kernel_rfl) (by kernel_rfl) (fun w' s' => .move rfl) rfl rfl ?_
                refine RD.take 2 rfl (by kernel_rfl) (by kernel_rfl) (by kernel_rfl) (fun w' s' => .move rfl) rfl rfl ?_
                refine RD.take 3 rfl (by kernel_rfl) (by kernel_rfl) (by kernel_rfl) (fun w' s' => .loadR ([.int .i64 o.a, .int .i64 o.b]) sh45 rfl (hb_9.step s' (fun e => e.elim (fun e => n_5__9.symm e) (fun e => Nat.not_le.2 ltD_b_9 e))).row rfl) rfl rfl ?_
                refine RD.take 6 rfl (by kernel_rfl) (by kernel_rfl) (by kernel_rfl) (fun w' s' => .buildS ze39 pl39 rfl rfl) rfl rfl ?_
                refine RD.all [1, 4] (by kernel_rfl) rfl (RDs.cons rfl ?_ (RDs.cons rfl ?_ (RDs.nil)))
                ·
                  refine RL.call rfl ok75 (c_clone l a c _ rfl w59 (hl.sub S) (by omega)) rfl rfl ?_
                  rintro _ w61 ⟨a84, c84, rfl, o84, s62⟩
                  have lt3 := hb_3.lt
                  have lt5 := hb_5.lt
                  have lt9 := hb_9.lt
                  have szS := S.size
                  have szD84 := szD
                  have szB84 := s62.size
                  have S := S.trans s62
                  have hb_3 := hb_3.sub s62
                  have hb_5 := hb_5.sub s62
                  have hb_9 := hb_9.sub s62
                  have szD := Nat.le_trans szD s62.size
                  have d84_3 : ∀ k, ob (.slice a84 l.length c84) = some k → k ≠ b_3 := (fun k hk e => by have := (o84.ge k hk).1; omega)
                  have d84_5 : ∀ k, ob (.slice a84 l.length c84) = some k → k ≠ b_5 := (fun k hk e => by have := (o84.ge k hk).1; omega)
                  have d84_9 : ∀ k, ob (.slice a84 l.length c84) = some k → k ≠ b_9 := (fun k hk e => by have := (o84.ge k hk).1; omega)
                  have o84w := o84.whole
                  refine RD.back s62.agr ?_
                  refine RD.all [4] (by kernel_rfl) rfl (RDs.cons rfl ?_ (RDs.nil))
                  refine RL.buildSlice1 sl22 _ ze45 rfl rfl rfl rfl rfl rfl rfl (fun b_87 w_87 e_87 z_87 hb_87 s_87 => ?_)
                  have fr_b_87 : w53.heap.size ≤ b_87 := by rw [e_87]; exact szD
                  have ge_87 := S.le e_87
                  have n_3__87 := hb_3.ne e_87
                  have n_5__87 := hb_5.ne e_87
                  have n_9__87 := hb_9.ne e_87
                  have d_o84_b_87 := o84.neNew e_87
                  have S := S.trans s_87
                  have hb_3 := hb_3.sub s_87
                  have hb_5 := hb_5.sub s_87
                  have hb_9 := hb_9.sub s_87
                  have szD := Nat.le_trans szD s_87.size
                  have szB84 := Nat.le_trans szB84 s_87.size
                  have o84 := o84.sub s_87
                  refine RD.back s_87.agr ?_
                  refine RD.all [5] (by kernel_rfl) rfl (RDs.cons rfl ?_ (RDs.nil))
                  refine RL.call rfl ok77 (c_insert l ⟨o.a, o.b⟩ _ a84 c84 b_87 n' w_87 o84 szB84 (by rcases o84w with ⟨q, _⟩ | ⟨g, ex, q, _, _, _, q2⟩; injection q with _ _ q; omega; injection q with _ _ q; rw [q]; exact Nat.le_trans q2 (by decide)) (by omega) g3 hb_87 (by first | exact d_o84_b_87 | exact (fun k hk e => by have := (o84.ge k hk).1; omega))) rfl rfl ?_
                  rintro _ w63 ⟨a88', c88', M88, rfl, hc88, hF88, hM88, a88⟩
                  have S := S.agrN a88 (fun k e => Nat.le_trans szS (o84.ge k e).1)
                  have hb_3 := hb_3.step a88 (fun e => d84_3 _ e rfl)
                  have hb_5 := hb_5.step a88 (fun e => d84_5 _ e rfl)
                  have hb_9 := hb_9.step a88 (fun e => d84_9 _ e rfl)
                  have szD := Nat.le_trans szD a88.size
                  have d88_5 : ∀ k, M88 k → k ≠ b_5 := (fun k hk e => by have := hM88 k hk; omega)
                  have d88_3 : ∀ k, M88 k → k ≠ b_3 := (fun k hk e => by have := hM88 k hk; omega)
                  have d88_9 : ∀ k, M88 k → k ≠ b_9 := (fun k hk e => by have := hM88 k hk; omega)
                  refine RD.backW rfl (a88.mono fun k _ e => .inr (Nat.le_trans szD84 (o84.ge k e).1)) ?_
                  refine RD.take 7 rfl (by kernel_rfl) (by kernel_rfl) (by kernel_rfl) (fun w' s' => .assign rfl) rfl rfl ?_
                  refine RD.all [8] (by kernel_rfl) rfl (RDs.cons rfl ?_ (RDs.nil))
                  refine RL.store sh39 rfl rfl rfl hb_5 (by exact Nat.le_of_ble_eq_true rfl) (by rfl) rfl (fun w65 z65 hb_5 a65 => ?_)
                  have S := S.upd a65 ge_5
                  have hb_3 := hb_3.upd a65 n_3__5
                  have hb_9 := hb_9.upd a65 n_5__9.symm
                  have szD := Nat.le_trans szD a65.size
                  have hF88 := hF88.updD a65 d88_5
                  have hb_5 : Has w65 b_5 ([.int .i64 0, .int .i64 0, .int .i64 0]) _ := hb_5.now (by kernel_rfl)
                  refine RD.backW rfl (a65.mono fun k _ e => e ▸ (.inl (rfl))) ?_
                  refine RD.done (by kernel_rfl) (RC.back ?_)
                  refine RC.done (rs := [.tmp 4, .cell 5 39]) (vs := [_, _]) rfl rfl ⟨rfl, ⟨_, rfl, .inr ⟨[.int .i64 0, .int .i64 0, .int .i64 0], sh39, hb_5.row, rfl⟩⟩, trivial⟩ ?_
                  -- end 10
                  have he : pairsM l o = (l.take n' ++ ⟨o.a, o.b⟩ :: l.drop n', ⟨0, 0, 0⟩) := (by rw [hdef, if_neg (by omega), if_pos k44, if_neg (fun h => by omega), put_no hs hn (by rw [← his]; exact is0), is0]; rfl)
                  rw [he]
                  exact ⟨S, _, _, M88, by rw [show (l.take n' ++ (⟨o.a, o.b⟩ : It) :: l.drop n').length = l.length + 1 from by rw [List.length_append, List.length_cons, List.length_take, List.length_drop]; omega]; rfl, by rw [show (l.take n' ++ (⟨o.a, o.b⟩ : It) :: l.drop n').length = l.length + 1 from by rw [List.length_append, List.length_cons, List.length_take, List.length_drop]; omega]; exact hc88, hF88, fun k hk => .inr (Nat.le_trans szS (hM88 k hk))⟩
                ·
                  refine RL.buildSlice1 sl22 _ ze45 rfl rfl rfl rfl rfl rfl rfl (fun b_87 w_87 e_87 z_87 hb_87 s_87 => ?_)
                  have fr_b_87 : w53.heap.size ≤ b_87 := by rw [e_87]; exact szD
                  have ge_87 := S.le e_87
                  have n_3__87 := hb_3.ne e_87
                  have n_5__87 := hb_5.ne e_87
                  have n_9__87 := hb_9.ne e_87
                  have S := S.trans s_87
                  have hb_3 := hb_3.sub s_87
                  have hb_5 := hb_5.sub s_87
                  have hb_9 := hb_9.sub s_87
                  have szD := Nat.le_trans szD s_87.size
                  refine RD.back s_87.agr ?_
                  refine RD.all [1] (by kernel_rfl) rfl (RDs.cons rfl ?_ (RDs.nil))
                  refine RL.call rfl ok75 (c_clone l a c _ rfl w_87 (hl.sub S) (by omega)) rfl rfl ?_
                  rintro _ w66 ⟨a84, c84, rfl, o84, s67⟩
                  have lt3 := hb_3.lt
                  have lt5 := hb_5.lt
                  have lt9 := hb_9.lt
                  have szS := S.size
                  have szD84 := szD
                  have szB84 := s67.size
                  have S := S.trans s67
                  have hb_3 := hb_3.sub s67
                  have hb_5 := hb_5.sub s67
                  have hb_9 := hb_9.sub s67
                  have szD := Nat.le_trans szD s67.size
                  have hb_87 := hb_87.sub s67
                  have d84_3 : ∀ k, ob (.slice a84 l.length c84) = some k → k ≠ b_3 := (fun k hk e => by have := (o84.ge k hk).1; omega)
                  have d84_5 : ∀ k, ob (.slice a84 l.length c84) = some k → k ≠ b_5 := (fun k hk e => by have := (o84.ge k hk).1; omega)
                  have d84_9 : ∀ k, ob (.slice a84 l.length c84) = some k → k ≠ b_9 := (fun k hk e => by have := (o84.ge k hk).1; omega)
                  have o84w := o84.whole
                  refine RD.back s67.agr ?_
                  refine RD.all [5] (by kernel_rfl) rfl (RDs.cons rfl ?_ (RDs.nil))
                  refine RL.call rfl ok77 (c_insert l ⟨o.a, o.b⟩ _ a84 c84 b_87 n' w66 o84 szB84 (by rcases o84w with ⟨q, _⟩ | ⟨g, ex, q, _, _, _, q2⟩; injection q with _ _ q; omega; injection q with _ _ q; rw [q]; exact Nat.le_trans q2 (by decide)) (by omega) g3 hb_87 (by first | exact d_o84_b_87 | exact (fun k hk e => by have := (o84.ge k hk).1; omega))) rfl rfl ?_
                  rintro _ w68 ⟨a88', c88', M88, rfl, hc88, hF88, hM88, a88⟩
                  have S := S.agrN a88 (fun k e => Nat.le_trans szS (o84.ge k e).1)
                  have hb_3 := hb_3.step a88 (fun e => d84_3 _ e rfl)
                  have hb_5 := hb_5.step a88 (fun e => d84_5 _ e rfl)
                  have hb_9 := hb_9.step a88 (fun e => d84_9 _ e rfl)
                  have szD := Nat.le_trans szD a88.size
                  have d88_5 : ∀ k, M88 k → k ≠ b_5 := (fun k hk e => by have := hM88 k hk; omega)
                  have d88_3 : ∀ k, M88 k → k ≠ b_3 := (fun k hk e => by have := hM88 k hk; omega)
                  have d88_9 : ∀ k, M88 k → k ≠ b_9 := (fun k hk e => by have := hM88 k hk; omega)
                  refine RD.backW rfl (a88.mono fun k _ e => .inr (Nat.le_trans szD84 (o84.ge k e).1)) ?_
                  refine RD.take 7 rfl (by kernel_rfl) (by kernel_rfl) (by kernel_rfl) (fun w' s' => .assign rfl) rfl rfl ?_
                  refine RD.all [8] (by kernel_rfl) rfl (RDs.cons rfl ?_ (RDs.nil))
                  refine RL.store sh39 rfl rfl rfl hb_5 (by exact Nat.le_of_ble_eq_true rfl) (by rfl) rfl (fun w70 z70 hb_5 a70 => ?_)
                  have S := S.upd a70 ge_5
                  have hb_3 := hb_3.upd a70 n_3__5
                  have hb_9 := hb_9.upd a70 n_5__9.symm
                  have szD := Nat.le_trans szD a70.size
                  have hF88 := hF88.updD a70 d88_5
                  have hb_5 : Has w70 b_5 ([.int .i64 0, .int .i64 0, .int .i64 0]) _ := hb_5.now (by kernel_rfl)
                  refine RD.backW rfl (a70.mono fun k _ e => e ▸ (.inl (rfl))) ?_
                  refine RD.done (by kernel_rfl) (RC.back ?_)
                  refine RC.done (rs := [.tmp 4, .cell 5 39]) (vs := [_, _]) rfl rfl ⟨rfl, ⟨_, rfl, .inr ⟨[.int .i64 0, .int .i64 0, .int .i64 0], sh39, hb_5.row, rfl⟩⟩, trivial⟩ ?_
                  -- end 11
                  have he : pairsM l o = (l.take n' ++ ⟨o.a, o.b⟩ :: l.drop n', ⟨0, 0, 0⟩) := (by rw [hdef, if_neg (by omega), if_pos k44, if_neg (fun h => by omega), put_no hs hn (by rw [← his]; exact is0), is0]; rfl)
                  rw [he]
                  exact ⟨S, _, _, M88, by rw [show (l.take n' ++ (⟨o.a, o.b⟩ : It) :: l.drop n').length = l.length + 1 from by rw [List.length_append, List.length_cons, List.length_take, List.length_drop]; omega]; rfl, by rw [show (l.take n' ++ (⟨o.a, o.b⟩ : It) :: l.drop n').length = l.length + 1 from by rw [List.length_append, List.length_cons, List.length_take, List.length_drop]; omega]; exact hc88, hF88, fun k hk => .inr (Nat.le_trans szS (hM88 k hk))⟩
            ·
              have g73 : ¬ o.box = 2 := h52
              refine RL.off rfl rfl ?_
              refine RL.off rfl rfl ?_
              refine RL.off rfl rfl ?_
              refine RL.off rfl rfl ?_
              refine RL.off rfl rfl ?_
              refine RL.ev (.pick_f rfl rfl) rfl rfl ?_
              refine RL.ev (.pick_f rfl rfl) rfl rfl ?_
              refine RL.nil (RC.back ?_)
              refine RC.cond_f rfl ?_
              refine RC.skip (RC.back ?_)
              refine RC.seq ?_
              refine RC.drawD (fun k => k = b_5) [5, 8] w39.heap.size 9 rfl rfl mxo (fun w71 s72 => ?_)
              have hNN : ∀ k, ((k = b_5) ∨ w39.heap.size ≤ k) → w.heap.size ≤ k := fun k e => e.elim (fun e => e ▸ ge_5) (fun e => Nat.le_trans S.size e)
              have ent_S := S.size
              have hN0 : ∀ k, w39.heap.size ≤ k → w.heap.size ≤ k := fun k e => Nat.le_trans S.size e
              have ltD_b_3 := hb_3.lt
              have ltD_b_5 := hb_5.lt
              have ltD_b_9 := hb_9.lt
              have szD := Nat.le_refl w39.heap.size
              have S := S.trans s72
              have hb_3 := hb_3.sub s72
              have hb_5 := hb_5.sub s72
              have hb_9 := hb_9.sub s72
              have szD := Nat.le_trans szD s72.size
              refine RD.take 0 rfl (by kernel_rfl) (by kernel_rfl) (by kernel_rfl) (fun w' s' => .move rfl) rfl rfl ?_
              refine RD.take 2 rfl (by kernel_rfl) (by kernel_rfl) (by kernel_rfl) (fun w' s' => .move rfl) rfl rfl ?_
              refine RD.take 3 rfl (by kernel_rfl) (by kernel_rfl) (by kernel_rfl) (fun w' s' => .loadR ([.int .i64 o.a, .int .i64 o.b]) sh45 rfl (hb_9.step s' (fun e => e.elim (fun e => n_5__9.symm e) (fun e => Nat.not_le.2 ltD_b_9 e))).row rfl) rfl rfl ?_
              refine RD.take 6 rfl (by kernel_rfl) (by kernel_rfl) (by kernel_rfl) (fun w' s' => .buildS ze39 pl39 rfl rfl) rfl rfl ?_
              refine RD.all [1, 4] (by kernel_rfl) rfl (RDs.cons rfl ?_ (RDs.cons rfl ?_ (RDs.nil)))
              ·
                refine RL.call rfl ok75 (c_clone l a c _ rfl w71 (hl.sub S) (by omega)) rfl rfl ?_
                rintro _ w73 ⟨a84, c84, rfl, o84, s74⟩
                have lt3 := hb_3.lt
                have lt5 := hb_5.lt
                have lt9 := hb_9.lt
                have szS := S.size
                have szD84 := szD
                have szB84 := s74.size
                have S := S.trans s74
                have hb_3 := hb_3.sub s74
                have hb_5 := hb_5.sub s74
                have hb_9 := hb_9.sub s74
                have szD := Nat.le_trans szD s74.size
                have d84_3 : ∀ k, ob (.slice a84 l.length c84) = some k → k ≠ b_3 := (fun k hk e => by have := (o84.ge k hk).1; omega)
                have d84_5 : ∀ k, ob (.slice a84 l.length c84) = some k → k ≠ b_5 := (fun k hk e => by have := (o84.ge k hk).1; omega)
                have d84_9 : ∀ k, ob (.slice a84 l.length c84) = some k → k ≠ b_9 := (fun k hk e => by have := (o84.ge k hk).1; omega)
                have o84w := o84.whole
                refine RD.back s74.agr ?_
                refine RD.all [4] (by kernel_rfl) rfl (RDs.cons rfl ?_ (RDs.nil))
                refine RL.buildSlice1 sl22 _ ze45 rfl rfl rfl rfl rfl rfl rfl (fun b_87 w_87 e_87 z_87 hb_87 s_87 => ?_)
                have fr_b_87 : w39.heap.size ≤ b_87 := by rw [e_87]; exact szD
                have ge_87 := S.le e_87
                have n_3__87 := hb_3.ne e_87
                have n_5__87 := hb_5.ne e_87
                have n_9__87 := hb_9.ne e_87
                have d_o84_b_87 := o84.neNew e_87
                have S := S.trans s_87
                have hb_3 := hb_3.sub s_87
                have hb_5 := hb_5.sub s_87
                have hb_9 := hb_9.sub s_87
                have szD := Nat.le_trans szD s_87.size
                have szB84 := Nat.le_trans szB84 s_87.size
                have o84 := o84.sub s_87
                refine RD.back s_87.agr ?_
                refine RD.all [5] (by kernel_rfl) rfl (RDs.cons rfl ?_ (RDs.nil))
                refine RL.call rfl ok77 (c_insert l ⟨o.a, o.b⟩ _ a84 c84 b_87 n' w_87 o84 szB84 (by rcases o84w with ⟨q, _⟩ | ⟨g, ex, q, _, _, _, q2⟩; injection q with _ _ q; omega; injection q with _ _ q; rw [q]; exact Nat.le_trans q2 (by decide)) (by omega) g3 hb_87 (by first | exact d_o84_b_87 | exact (fun k hk e => by have := (o84.ge k hk).1; omega))) rfl rfl ?_
                rintro _ w75 ⟨a88', c88', M88, rfl, hc88, hF88, hM88, a88⟩
                have S := S.agrN a88 (fun k e => Nat.le_trans szS (o84.ge k e).1)
                have hb_3 := hb_3.step a88 (fun e => d84_3 _ e rfl)
                have hb_5 := hb_5.step a88 (fun e => d84_5 _ e rfl)
                have hb_9 := hb_9.step a88 (fun e => d84_9 _ e rfl)
                have szD := Nat.le_trans szD a88.size
                have d88_5 : ∀ k, M88 k → k ≠ b_5 := (fun k hk e => by have := hM88 k hk; omega)
                have d88_3 : ∀ k, M88 k → k ≠ b_3 := (fun k hk e => by have := hM88 k hk; omega)
                have d88_9 : ∀ k, M88 k → k ≠ b_9 := (fun k hk e => by have := hM88 k hk; omega)
                refine RD.backW rfl (a88.mono fun k _ e => .inr (Nat.le_trans szD84 (o84.ge k e).1)) ?_
                refine RD.take 7 rfl (by kernel_rfl) (by kernel_rfl) (by kernel_rfl) (fun w' s' => .assign rfl) rfl rfl ?_
                refine RD.all [8] (by kernel_rfl) rfl (RDs.cons rfl ?_ (RDs.nil))
                refine RL.store sh39 rfl rfl rfl hb_5 (by exact Nat.le_of_ble_eq_true rfl) (by rfl) rfl (fun w77 z77 hb_5 a77 => ?_)
                have S := S.upd a77 ge_5
                have hb_3 := hb_3.upd a77 n_3__5
                have hb_9 := hb_9.upd a77 n_5__9.symm
                have szD := Nat.le_trans szD a77.size
                have hF88 := hF88.updD a77 d88_5
                have hb_5 : Has w77 b_5 ([.int .i64 0, .int .i64 0, .int .i64 0]) _ := hb_5.now (by kernel_rfl)
                refine RD.backW rfl (a77.mono fun k _ e => e ▸ (.inl (rfl))) ?_
                refine RD.done (by kernel_rfl) (RC.back ?_)
                refine RC.done (rs := [.tmp 4, .cell 5 39]) (vs := [_, _]) rfl rfl ⟨rfl, ⟨_, rfl, .inr ⟨[.int .i64 0, .int .i64 0, .int .i64 0], sh39, hb_5.row, rfl⟩⟩, trivial⟩ ?_
                -- end 12
                have he : pairsM l o = (l.take n' ++ ⟨o.a, o.b⟩ :: l.drop n', ⟨0, 0, 0⟩) := (by rw [hdef, if_neg (by omega), if_pos k44, if_neg (fun h => by omega), put_no hs hn (by rw [← his]; exact is0), is0]; rfl)
                rw [he]
                exact ⟨S, _, _, M88, by rw [show (l.take n' ++ (⟨o.a, o.b⟩ : It) :: l.drop n').length = l.length + 1 from by rw [List.length_append, List.length_cons, List.length_take, List.length_drop]; omega]; rfl, by rw [show (l.take n' ++ (⟨o.a, o.b⟩ : It) :: l.drop n').length = l.length + 1 from by rw [List.length_append, List.length_cons, List.length_take, List.length_drop]; omega]; exact hc88, hF88, fun k hk => .inr (Nat.le_trans szS (hM88 k hk))⟩
              ·
                refine RL.buildSlice1 sl22 _ ze45 rfl rfl rfl rfl rfl rfl rfl (fun b_87 w_87 e_87 z_87 hb_87 s_87 => ?_)
                have fr_b_87 : w39.heap.size ≤ b_87 := by rw [e_87]; exact szD
                have ge_87 := S.le e_87
                have n_3__87 := hb_3.ne e_87
                have n_5__87 := hb_5.ne e_87
                have n_9__87 := hb_9.ne e_87
                have S := S.trans s_87
                have hb_3 := hb_3.sub s_87
                have hb_5 := hb_5.sub s_87
                have hb_9 := hb_9.sub s_87
                have szD := Nat.le_trans szD s_87.size
                refine RD.back s_87.agr ?_
                refine RD.all [1] (by kernel_rfl) rfl (RDs.cons rfl ?_ (RDs.nil))
                refine RL.call rfl ok75 (c_clone l a c _ rfl w_87 (hl.sub S) (by omega)) rfl rfl ?_
                rintro _ w78 ⟨a84, c84, rfl, o84, s79⟩
                have lt3 := hb_3.lt
                have lt5 := hb_5.lt
                have lt9 := hb_9.lt
                have szS := S.size
                have szD84 := szD
                have szB84 := s79.size
                have S := S.trans s79
                have hb_3 := hb_3.sub s79
                have hb_5 := hb_5.sub s79
                have hb_9 := hb_9.sub s79
                have szD := Nat.le_trans szD s79.size
                have hb_87 := hb_87.sub s79
                have d84_3 : ∀ k, ob (.slice a84 l.length c84) = some k → k ≠ b_3 := (fun k hk e => by have := (o84.ge k hk).1; omega)
                have d84_5 : ∀ k, ob (.slice a84 l.length c84) = some k → k ≠ b_5 := (fun k hk e => by have := (o84.ge k hk).1; omega)
                have d84_9 : ∀ k, ob (.slice a84 l.length c84) = some k → k ≠ b_9 := (fun k hk e => by have := (o84.ge k hk).1; omega)
                have o84w := o84.whole
                refine RD.back s79.agr ?_
                refine RD.all [5] (by kernel_rfl) rfl (RDs.cons rfl ?_ (RDs.nil))
                refine RL.call rfl ok77 (c_insert l ⟨o.a, o.b⟩ _ a84 c84 b_87 n' w78 o84 szB84 (by rcases o84w with ⟨q, _⟩ | ⟨g, ex, q, _, _, _, q2⟩; injection q with _ _ q; omega; injection q with _ _ q; rw [q]; exact Nat.le_trans q2 (by decide)) (by omega) g3 hb_87 (by first | exact d_o84_b_87 | exact (fun k hk e => by have := (o84.ge k hk).1; omega))) rfl rfl ?_
                rintro _ w80 ⟨a88', c88', M88, rfl, hc88, hF88, hM88, a88⟩
                have S := S.agrN a88 (fun k e => Nat.le_trans szS (o84.ge k e).1)
                have hb_3 := hb_3.step a88 (fun e => d84_3 _ e rfl)
                have hb_5 := hb_5.step a88 (fun e => d84_5 _ e rfl)
                have hb_9 := hb_9.step a88 (fun e => d84_9 _ e rfl)
                have szD := Nat.le_trans szD a88.size
                have d88_5 : ∀ k, M88 k → k ≠ b_5 := (fun k hk e => by have := hM88 k hk; omega)
                have d88_3 : ∀ k, M88 k → k ≠ b_3 := (fun k hk e => by have := hM88 k hk; omega)
                have d88_9 : ∀ k, M88 k → k ≠ b_9 := (fun k hk e => by have := hM88 k hk; omega)
                refine RD.backW rfl (a88.mono fun k _ e => .inr (Nat.le_trans szD84 (o84.ge k e).1)) ?_
                refine RD.take 7 rfl (by kernel_rfl) (by kernel_rfl) (by kernel_rfl) (fun w' s' => .assign rfl) rfl rfl ?_
                refine RD.all [8] (by kernel_rfl) rfl (RDs.cons rfl ?_ (RDs.nil))
                refine RL.store sh39 rfl rfl rfl hb_5 (by exact Nat.le_of_ble_eq_true rfl) (by rfl) rfl (fun w82 z82 hb_5 a82 => ?_)
                have S := S.upd a82 ge_5
                have hb_3 := hb_3.upd a82 n_3__5
                have hb_9 := hb_9.upd a82 n_5__9.symm
                have szD := Nat.le_trans szD a82.size
                have hF88 := hF88.updD a82 d88_5
                have hb_5 : Has w82 b_5 ([.int .i64 0, .int .i64 0, .int .i64 0]) _ := hb_5.now (by kernel_rfl)
                refine RD.backW rfl (a82.mono fun k _ e => e ▸ (.inl (rfl))) ?_
                refine RD.done (by kernel_rfl) (RC.back ?_)
                refine RC.done (rs := [.tmp 4, .cell 5 39]) (vs := [_, _]) rfl rfl ⟨rfl, ⟨_, rfl, .inr ⟨[.int .i64 0, .int .i64 0, .int .i64 0], sh39, hb_5.row, rfl⟩⟩, trivial⟩ ?_
                -- end 13
                have he : pairsM l o = (l.take n' ++ ⟨o.a, o.b⟩ :: l.drop n', ⟨0, 0, 0⟩) := (by rw [hdef, if_neg (by omega), if_pos k44, if_neg (fun h => by omega), put_no hs hn (by rw [← his]; exact is0), is0]; rfl)
                rw [he]
                exact ⟨S, _, _, M88, by rw [show (l.take n' ++ (⟨o.a, o.b⟩ : It) :: l.drop n').length = l.length + 1 from by rw [List.length_append, List.length_cons, List.length_take, List.length_drop]; omega]; rfl, by rw [show (l.take n' ++ (⟨o.a, o.b⟩ : It) :: l.drop n').length = l.length + 1 from by rw [List.length_append, List.length_cons, List.length_take, List.length_drop]; omega]; exact hc88, hF88, fun k hk => .inr (Nat.le_trans szS (hM88 k hk))⟩
      ·
        have n44 := h38
        refine RC.seq ?_
        refine RC.region rfl ?_
        refine RL.ev (.bin rfl rfl rfl) rfl rfl ?_
        refine RL.ev (.assign rfl) rfl rfl ?_
        refine RL.nil (RC.back ?_)
        refine RC.cond_dec rfl (fun h83 => ?_) (fun h83 => ?_)
        ·
          have k90 := h83
          refine RC.cutx (α := Nat) (fun y_ => [(0, .slice a l.length c), (3, .pointer (some ⟨b_3, 0, none⟩)), (5, .pointer (some ⟨b_5, 0, none⟩)), (6, .int .i64 (y_ : Int))]) (fun y_ w84 => (y_ = (if is then n' + 1 else n') ∧ y_ ≤ l.length) ∧ Has w84 b_5 [.int .i64 0, .int .i64 0, .int .i64 0] 39 ∧ Sub w w84) ?_ (fun y_ w84 hJ => ?_)
          ·
            refine RC.seq ?_
            refine RC.region rfl ?_
            refine RL.ev (.move rfl) rfl rfl ?_
            refine RL.nil (RC.back ?_)
            refine RC.cond rfl (fun h85 => ?_) (fun h85 => ?_)
            ·
              have is1 : is = true := h85
              obtain ⟨x, hx, hxk⟩ := g0.1 is1
              have hnl := lt_of_get hx
              refine RC.region rfl ?_
              refine RL.ev (.move rfl) rfl rfl ?_
              refine RL.ev (.as (.bin rfl rfl rfl) (wi64 (y := ((n' + 1 : Nat) : Int)) (by omega) (by omega))) rfl rfl ?_
              refine RL.ev (.assign rfl) rfl rfl ?_
              exact RL.nil (fun a ka => ⟨n' + 1, ⟨⟨by rw [is1]; rfl, by omega⟩, hb_5, S⟩, ka.keep (keep_of (by repeat (first | exact trivial | refine And.intro rfl ?_)))⟩)
            ·
              have is0 : is = false := h85
              exact RC.skip (fun a ka => ⟨n', ⟨⟨by rw [is0]; rfl, g3⟩, hb_5, S⟩, ka.keep (keep_of (by repeat (first | exact trivial | refine And.intro rfl ?_)))⟩)
          obtain ⟨⟨hyk, hyl⟩, hb_5, S⟩ := hJ
          refine RC.seq ?_
          refine RC.seq ?_
          refine RC.region rfl ?_
          refine RL.ev (.move rfl) rfl rfl ?_
          refine RL.ev (.bin rfl rfl rfl) rfl rfl ?_
          refine RL.nil (RC.back ?_)
          refine RC.cond_dec rfl (fun h86 => ?_) (fun h86 => ?_)
          ·
            have g96 : y_ = 0 := (by omega)
            refine RC.seq ?_
            refine RC.region rfl ?_
            refine RL.ev (.move rfl) rfl rfl ?_
            refine RL.call rfl ok73 (c_none w84) rfl rfl ?_
            rintro _ w87 ⟨rfl, s88⟩
            have S := S.trans s88
            have hb_5 := hb_5.sub s88
            refine RL.ev (.assign rfl) rfl rfl ?_
            refine RL.store sh39 rfl rfl rfl hb_5 (by exact Nat.le_of_ble_eq_true rfl) (by rfl) rfl (fun w89 z89 hb_5 a89 => ?_)
            have S := S.upd a89 ge_5
            have hb_5 : Has w89 b_5 ([.int .i64 3, .int .i64 0, .int .i64 0]) _ := hb_5.now (by kernel_rfl)
            refine RL.nil (RC.back ?_)
            refine RC.done (rs := [.tmp 4, .cell 5 39]) (vs := [_, _]) rfl rfl ⟨rfl, ⟨_, rfl, .inr ⟨[.int .i64 3, .int .i64 0, .int .i64 0], sh39, hb_5.row, rfl⟩⟩, trivial⟩ ?_
            -- end 14
            have he : pairsM l o = (l, ⟨3, 0, 0⟩) := (by rw [hdef, if_neg (by omega), if_neg (by omega), if_pos k90, if_pos (by rw [← hyk]; exact g96)])
            rw [he]
            exact ⟨S, _, _, M, rfl, hc, hF.sub S, Up.refl _ _⟩
          ·
            have g96 : 0 < y_ := (by omega)
            obtain ⟨y, hy⟩ := getSome (l := l) (i := y_ - 1) (by omega)
            have hva := valAt_get hy
            refine RC.skip (RC.back ?_)
            refine RC.seq ?_
            refine RC.drawD (fun k => k = b_5) [15] w84.heap.size 16 rfl rfl mxo (fun w90 s91 => ?_)
            have hNN : ∀ k, ((k = b_5) ∨ w84.heap.size ≤ k) → w.heap.size ≤ k := fun k e => e.elim (fun e => e ▸ ge_5) (fun e => Nat.le_trans S.size e)
            have ent_S := S.size
            have hN0 : ∀ k, w84.heap.size ≤ k → w.heap.size ≤ k := fun k e => Nat.le_trans S.size e
            have ltD_b_5 := hb_5.lt
            have szD := Nat.le_refl w84.heap.size
            have S := S.trans s91
            have hb_5 := hb_5.sub s91
            have szD := Nat.le_trans szD s91.size
            refine RD.take 0 rfl (by kernel_rfl) (by kernel_rfl) (by kernel_rfl) (fun w' s' => .move rfl) rfl rfl ?_
            refine RD.take 1 rfl (by kernel_rfl) (by kernel_rfl) (by kernel_rfl) (fun w' s' => .move rfl) rfl rfl ?_
            refine RD.take 2 rfl (by kernel_rfl) (by kernel_rfl) (by kernel_rfl) (fun w' s' => .move rfl) rfl rfl ?_
            refine RD.take 3 rfl (by kernel_rfl) (by kernel_rfl) (by kernel_rfl) (fun w' s' => .as (.bin rfl rfl rfl) (wi64 (y := ((y_ - 1 : Nat) : Int)) (by omega) (by omega))) rfl rfl ?_
            refine RD.take 4 rfl (by kernel_rfl) (by kernel_rfl) (by kernel_rfl) (fun w' s' => .indexS sl22 rfl rfl (by omega) (hl.is (i := 0) (by simp only [List.length_map, List.length_cons, List.length_nil]; omega))) rfl rfl ?_
            refine RD.take 5 rfl (by kernel_rfl) (by kernel_rfl) (by kernel_rfl) (fun w' s' => .fieldA fo45_0 rfl) rfl rfl ?_
            refine RD.take 6 rfl (by kernel_rfl) (by kernel_rfl) (by kernel_rfl) (fun w' s' => .load1 sh2 rfl ((hl.sub (S.agrN s' hNN)).cell (enc := It.cells) (j := 0) hy rfl)) rfl rfl ?_
            refine RD.take 7 rfl (by kernel_rfl) (by kernel_rfl) (by kernel_rfl) (fun w' s' => .move rfl) rfl rfl ?_
            refine RD.take 8 rfl (by kernel_rfl) (by kernel_rfl) (by kernel_rfl) (fun w' s' => .move rfl) rfl rfl ?_
            refine RD.take 9 rfl (by kernel_rfl) (by kernel_rfl) (by kernel_rfl) (fun w' s' => .as (.bin rfl rfl rfl) (wi64 (y := ((y_ - 1 : Nat) : Int)) (by omega) (by omega))) rfl rfl ?_
            refine RD.take 10 rfl (by kernel_rfl) (by kernel_rfl) (by kernel_rfl) (fun w' s' => .indexS sl22 rfl rfl (by omega) (hl.is (i := 0) (by simp only [List.length_map, List.length_cons, List.length_nil]; omega))) rfl rfl ?_
            refine RD.take 11 rfl (by kernel_rfl) (by kernel_rfl) (by kernel_rfl) (fun w' s' => .fieldA fo45_1 rfl) rfl rfl ?_
            refine RD.take 12 rfl (by kernel_rfl) (by kernel_rfl) (by kernel_rfl) (fun w' s' => .load1 sh2 rfl ((hl.sub (S.agrN s' hNN)).cell (enc := It.cells) (j := 1) hy rfl)) rfl rfl ?_
            refine RD.take 13 rfl (by kernel_rfl) (by kernel_rfl) (by kernel_rfl) (fun w' s' => .buildS ze39 pl39 rfl rfl) rfl rfl ?_
            refine RD.take 14 rfl (by kernel_rfl) (by kernel_rfl) (by kernel_rfl) (fun w' s' => .assign rfl) rfl rfl ?_
            refine RD.all [15] (by kernel_rfl) rfl (RDs.cons rfl ?_ (RDs.nil))
            refine RL.store sh39 rfl rfl rfl hb_5 (by exact Nat.le_of_ble_eq_true rfl) (by rfl) rfl (fun w92 z92 hb_5 a92 => ?_)
            have S := S.upd a92 ge_5
            have szD := Nat.le_trans szD a92.size
            have hb_5 : Has w92 b_5 ([.int .i64 0, .int .i64 y.k, .int .i64 y.v]) _ := hb_5.now (by kernel_rfl)
            refine RD.backW rfl (a92.mono fun k _ e => e ▸ (.inl (rfl))) ?_
            refine RD.done (by kernel_rfl) (RC.back ?_)
            refine RC.done (rs := [.tmp 4, .cell 5 39]) (vs := [_, _]) rfl rfl ⟨rfl, ⟨_, rfl, .inr ⟨[.int .i64 0, .int .i64 y.k, .int .i64 y.v], sh39, hb_5.row, rfl⟩⟩, trivial⟩ ?_
            -- end 15
            have he : pairsM l o = (l, ⟨0, y.k, y.v⟩) := (by rw [hdef, if_neg (by omega), if_neg (by omega), if_pos k90, if_neg (by rw [← hyk]; omega), ← hyk, hva])
            rw [he]
            exact ⟨S, _, _, M, rfl, hc, hF.sub S, Up.refl _ _⟩
        ·
          have n90 := h83
          refine RC.seq ?_
          refine RC.region rfl ?_
          refine RL.ev (.bin rfl rfl rfl) rfl rfl ?_
          refine RL.ev (.assign rfl) rfl rfl ?_
          refine RL.nil (RC.back ?_)
          refine RC.cond_dec rfl (fun h93 => ?_) (fun h93 => ?_)
          ·
            have k113 := h93
            refine RC.seq ?_
            refine RC.region rfl ?_
            refine RL.ev (.move rfl) rfl rfl ?_
            refine RL.ev (.move rfl) rfl rfl ?_
            refine RL.ev (.len sl22 rfl) rfl rfl ?_
            refine RL.ev (.buildS ze39 pl39 rfl rfl) rfl rfl ?_
            refine RL.ev (.assign rfl) rfl rfl ?_
            refine RL.store sh39 rfl rfl rfl hb_5 (by exact Nat.le_of_ble_eq_true rfl) (by rfl) rfl (fun w94 z94 hb_5 a94 => ?_)
            have S := S.upd a94 ge_5
            have hb_3 := hb_3.upd a94 n_3__5
            have hb_5 : Has w94 b_5 ([.int .i64 0, .int .i64 (l.length : Int), .int .i64 0]) _ := hb_5.now (by kernel_rfl)
            refine RL.nil (RC.back ?_)
            refine RC.done (rs := [.tmp 4, .cell 5 39]) (vs := [_, _]) rfl rfl ⟨rfl, ⟨_, rfl, .inr ⟨[.int .i64 0, .int .i64 (l.length : Int), .int .i64 0], sh39, hb_5.row, rfl⟩⟩, trivial⟩ ?_
            -- end 16
            have he : pairsM l o = (l, ⟨0, (l.length : Int), 0⟩) := (by rw [hdef, if_pos k113])
            rw [he]
            exact ⟨S, _, _, M, rfl, hc, hF.sub S, Up.refl _ _⟩
          ·
            have n113 := h93
            refine RC.skip (RC.back ?_)
            refine RC.seq ?_
            refine RC.region rfl ?_
            refine RL.ev (.move rfl) rfl rfl ?_
            refine RL.ev (.move rfl) rfl rfl ?_
            refine RL.ev (.buildS ze39 pl39 rfl rfl) rfl rfl ?_
            refine RL.ev (.assign rfl) rfl rfl ?_
            refine RL.store sh39 rfl rfl rfl hb_5 (by exact Nat.le_of_ble_eq_true rfl) (by rfl) rfl (fun w95 z95 hb_5 a95 => ?_)
            have S := S.upd a95 ge_5
            have hb_3 := hb_3.upd a95 n_3__5
            have hb_5 : Has w95 b_5 ([.int .i64 0, .int .i64 (n' : Int), .int .i64 0]) _ := hb_5.now (by kernel_rfl)
            refine RL.nil (RC.back ?_)
            refine RC.done (rs := [.tmp 4, .cell 5 39]) (vs := [_, _]) rfl rfl ⟨rfl, ⟨_, rfl, .inr ⟨[.int .i64 0, .int .i64 (n' : Int), .int .i64 0], sh39, hb_5.row, rfl⟩⟩, trivial⟩ ?_
            -- end 17
            have he : pairsM l o = (l, ⟨0, (n' : Int), 0⟩) := (by rw [hdef, if_neg n113, if_neg n44, if_neg n90, if_pos (by omega)])
            rw [he]
            exact ⟨S, _, _, M, rfl, hc, hF.sub S, Up.refl _ _⟩
end Go.Proofs.Ytjafbffehmombaa
