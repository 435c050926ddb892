/-
  What the law HistoryModel leans on, part 3.
-/
import Derived.Test.YtlhnnleaiinjaaaPHistoryModel2
set_option linter.unusedVariables false
set_option linter.unusedSimpArgs false
namespace Go.Proofs.Ytlhnnleaiinjaaa
open Go Go.XL
theorem c_pcmp (key : Int) (x : It) (w : World) : FC Try.prog 74 [x.val, .int .i64 key] w (Val (.int .i64 (cmpI x.k key)) w) := by
  refine FC.intro Try.func74 rfl Try.ntmps74 rfl ?_
  have S := Sub.refl w
  refine RC.seq ?_
  refine RC.region rfl ?_
  refine RL.box rfl rfl rfl (fun b_2 w_2 e_2 z_2 hb_2 s_2 => ?_)
  have ge_2 := S.le e_2
  have S := S.trans s_2
  have hb_2 : Has w_2 b_2 ([.int .i64 x.k, .int .i64 x.v]) _ := hb_2
  refine RL.ev (.assign rfl) rfl rfl ?_
  refine RL.nil (RC.back ?_)
  refine RC.seq ?_
  refine RC.region rfl ?_
  refine RL.ev (.field0 fo82_0 rfl) rfl rfl ?_
  refine RL.ev (.load1 sh2 rfl (hb_2.cell rfl)) rfl rfl ?_
  refine RL.ev (.move rfl) rfl rfl ?_
  refine RL.call rfl ok62 (c_compare x.k key w_2) rfl rfl ?_
  rintro _ w1 ⟨rfl, s2⟩
  have S := S.trans s2
  have hb_2 := hb_2.sub s2
  refine RL.ev (.assign rfl) rfl rfl ?_
  refine RL.nil (RC.back ?_)
  refine RC.done (rs := [.tmp 4]) (vs := [_]) rfl rfl ⟨rfl, trivial⟩ ?_
  -- end 1
  exact ⟨rfl, S⟩
theorem cmpI_neg {a b : Int} : cmpI a b < 0 ↔ a < b := by rcases cmpI_cases a b with h | h | h <;> omega
theorem cmpI_zero {a b : Int} : cmpI a b = 0 ↔ a = b := by rcases cmpI_cases a b with h | h | h <;> omega
theorem c_none (w : World) : FC Try.prog 75 [] w (Val (.agg #[.int .i64 3, .int .i64 0, .int .i64 0]) w) := by
  refine FC.intro Try.func75 rfl Try.ntmps75 rfl ?_
  have S := Sub.refl w
  refine RC.seq ?_
  refine RC.region rfl ?_
  refine RL.alloc ze43 rfl rfl (fun b_0 w_0 e_0 z_0 hb_0 s_0 => ?_)
  have ge_0 := S.le e_0
  have S := S.trans s_0
  refine RL.nil (RC.back ?_)
  refine RC.seq ?_
  refine RC.region rfl ?_
  refine RL.ev (.buildS ze43 pl43 rfl rfl) rfl rfl ?_
  refine RL.store sh43 rfl rfl rfl hb_0 (by exact Nat.le_of_ble_eq_true rfl) (by rfl) rfl (fun w1 z1 hb_0 a1 => ?_)
  have S := S.upd a1 ge_0
  have hb_0 : Has w1 b_0 ([.int .i64 3, .int .i64 0, .int .i64 0]) _ := hb_0.now (by kernel_rfl)
  refine RL.nil (RC.back ?_)
  refine RC.done (rs := [.cell 0 43]) (vs := [_]) rfl rfl ⟨⟨_, rfl, .inr ⟨[.int .i64 3, .int .i64 0, .int .i64 0], sh43, hb_0.row, rfl⟩⟩, trivial⟩ ?_
  -- end 1
  exact ⟨rfl, S⟩
theorem c_full (w : World) : FC Try.prog 78 [] w (Val (.agg #[.int .i64 5, .int .i64 0, .int .i64 0]) w) := by
  refine FC.intro Try.func78 rfl Try.ntmps78 rfl ?_
  have S := Sub.refl w
  refine RC.seq ?_
  refine RC.region rfl ?_
  refine RL.alloc ze43 rfl rfl (fun b_0 w_0 e_0 z_0 hb_0 s_0 => ?_)
  have ge_0 := S.le e_0
  have S := S.trans s_0
  refine RL.nil (RC.back ?_)
  refine RC.seq ?_
  refine RC.region rfl ?_
  refine RL.ev (.buildS ze43 pl43 rfl rfl) rfl rfl ?_
  refine RL.store sh43 rfl rfl rfl hb_0 (by exact Nat.le_of_ble_eq_true rfl) (by rfl) rfl (fun w1 z1 hb_0 a1 => ?_)
  have S := S.upd a1 ge_0
  have hb_0 : Has w1 b_0 ([.int .i64 5, .int .i64 0, .int .i64 0]) _ := hb_0.now (by kernel_rfl)
  refine RL.nil (RC.back ?_)
  refine RC.done (rs := [.cell 0 43]) (vs := [_]) rfl rfl ⟨⟨_, rfl, .inr ⟨[.int .i64 5, .int .i64 0, .int .i64 0], sh43, hb_0.row, rfl⟩⟩, trivial⟩ ?_
  -- end 1
  exact ⟨rfl, S⟩
/-- an answer: a row, and what is told -/
def AnsP (M : Nat → Prop) (w w' : World) (q : List It × ResT) (u : Value) : Prop := Sub w w' ∧ ∃ a' c' M', u = .tuple #[.slice a' q.1.length c', .agg q.2.cells.toArray] ∧ q.1.length ≤ c' ∧ Ft M' (fun u => Sl u a' 2 (q.1.map It.cells)) w' ∧ Up M w M'
theorem c_pairs (l : List It) (a : Option Addr) (c m : Nat) (hm : m = l.length) (hs : Srt l) (hl200 : l.length ≤ 200) (hc : l.length ≤ c) (o : OpT) (hok : okP o) (w : World) (M : Nat → Prop) (hF : Ft M (fun u => Sl u a 2 (l.map It.cells)) w) :
    FC Try.prog 64 [.slice a m c, .agg o.cells.toArray] w (fun u w' => AnsP M w w' (pairsM l o) u) := by
  subst hm
  have hl := hF.now
  have hk := hok.1
  obtain ⟨n, hn⟩ : ∃ n, n = (ltL o.a l).length := ⟨_, rfl⟩
  obtain ⟨g0, g1, g2, g3⟩ := part_has hs hn
  obtain ⟨is, his⟩ : ∃ b, b = hasK l o.a := ⟨_, rfl⟩
  rw [← his] at g0
  have hdef : pairsM l o = if o.kind = 6 then (l, ⟨0, l.length, 0⟩)
    else if o.kind = 2 then
      if is = false ∧ (200 ≤ l.length ∨ o.box = 2 ∧ 9 ≤ crowdL l o.a) then (l, ⟨5, 0, 0⟩)
      else (putL l o.a o.b, if is then ⟨0, 1, (valAt l n).v⟩ else ⟨0, 0, 0⟩)
    else if o.kind = 4 then
      if (if is then n + 1 else n) = 0 then (l, ⟨3, 0, 0⟩)
      else (l, ⟨0, (valAt l ((if is then n + 1 else n) - 1)).k, (valAt l ((if is then n + 1 else n) - 1)).v⟩)
    else if o.kind = 5 then (l, ⟨0, n, 0⟩)
    else if is = false then (l, ⟨3, 0, 0⟩)
    else (if o.kind = 3 then delL l o.a else l, ⟨0, (valAt l n).v, 0⟩) := by rw [hn, his]; rfl
  have hkk : 1 ≤ o.kind ∧ o.kind ≤ 6 := ⟨hk.2.2.1, hk.2.2.2.1⟩
  refine FC.intro Try.func64 rfl Try.ntmps64 rfl ?_
  have S := Sub.refl w
  refine RC.seq ?_
  refine RC.region rfl ?_
  refine RL.box rfl rfl rfl (fun b_3 w_3 e_3 z_3 hb_3 s_3 => ?_)
  have ge_3 := S.le e_3
  have S := S.trans s_3
  have hb_3 : Has w_3 b_3 ([.int .i64 o.box, .int .i64 o.kind, .int .i64 o.a, .int .i64 o.b]) _ := hb_3
  refine RL.ev (.assign rfl) rfl rfl ?_
  refine RL.alloc ze43 rfl rfl (fun b_5 w_5 e_5 z_5 hb_5 s_5 => ?_)
  have ge_5 := S.le e_5
  have n_3__5 := hb_3.ne e_5
  have S := S.trans s_5
  have hb_3 := hb_3.sub s_5
  refine RL.nil (RC.back ?_)
  refine RC.seq ?_
  refine RC.region rfl ?_
  refine RL.ev (.move rfl) rfl rfl ?_
  refine RL.ev (.field0 fo40_2 rfl) rfl rfl ?_
  refine RL.ev (.load1 sh2 rfl (hb_3.cell rfl)) rfl rfl ?_
  refine RL.call rfl ok73 (c_bsf 74 ok74 o.a (fun x => cmpI x.k o.a) (c_pcmp o.a) l (fun i j x y hij hx hy h => by rw [cmpI_neg] at h ⊢; rcases Nat.lt_or_eq_of_le hij with q | q; have := srt_get hs q hx hy; omega; subst q; rw [hx] at hy; cases hy; exact h) a c _ rfl w_5 (hl.sub S) (by omega)) rfl rfl ?_
  rintro _ w1 ⟨s2, n', hn1, rfl, hn2, hn3⟩
  have S := S.trans s2
  have hb_3 := hb_3.sub s2
  have hb_5 := hb_5.sub s2
  have hnn : n' = n := (by rw [hn]; exact (part_lt hn1 (fun k x h1 h2 => cmpI_neg.1 (hn2 k x h1 h2)) (fun k x h1 h2 h3 => hn3 k x h1 h2 (cmpI_neg.2 h3))).2.symm)
  subst hnn
  have hbi : pB (∃ x, l[n']? = some x ∧ cmpI x.k o.a = 0) = is := (by rw [Bool.eq_iff_iff, pB_iff, g0]; exact ⟨fun ⟨x, h1, h2⟩ => ⟨x, h1, cmpI_zero.1 h2⟩, fun ⟨x, h1, h2⟩ => ⟨x, h1, cmpI_zero.2 h2⟩⟩)
  rw [hbi]
  refine RL.ev (.move rfl) rfl rfl ?_
  refine RL.ev (.extract rfl rfl) rfl rfl ?_
  refine RL.ev (.as (v' := .bool is) (.extract rfl rfl) (by rfl)) rfl rfl ?_
  refine RL.ev (.assign rfl) rfl rfl ?_
  refine RL.ev (.assign rfl) rfl rfl ?_
  refine RL.nil (RC.back ?_)
  refine RC.seq ?_
  refine RC.seq ?_
  refine RC.region rfl ?_
  refine RL.ev (.field0 fo40_1 rfl) rfl rfl ?_
  refine RL.ev (.load1 sh3 rfl (hb_3.cell rfl)) rfl rfl ?_
  refine RL.nil (RC.back ?_)
  refine RC.block ?_
  refine RC.seq ?_
  refine RC.seq ?_
  refine RC.region rfl ?_
  refine RL.ev (.bin rfl rfl rfl) rfl rfl ?_
  refine RL.ev (.assign rfl) rfl rfl ?_
  refine RL.nil (RC.back ?_)
  refine RC.cond_dec rfl (fun h3 => ?_) (fun h3 => ?_)
  ·
    have k20 := h3
    refine RC.skip (RC.back ?_)
    refine RC.cond_dec rfl (fun h4 => ?_) (fun h4 => absurd h3 h4)
    refine RC.seq ?_
    refine RC.seq ?_
    refine RC.region rfl ?_
    refine RL.ev (.move rfl) rfl rfl ?_
    refine RL.ev (.not rfl) rfl rfl ?_
    refine RL.nil (RC.back ?_)
    refine RC.cond rfl (fun h5 => ?_) (fun h5 => ?_)
    ·
      have is0 : is = false := (by simpa using h5)
      refine RC.seq ?_
      refine RC.region rfl ?_
      refine RL.ev (.move rfl) rfl rfl ?_
      refine RL.call rfl ok75 (c_none w1) rfl rfl ?_
      rintro _ w6 ⟨rfl, s7⟩
      have S := S.trans s7
      have hb_3 := hb_3.sub s7
      have hb_5 := hb_5.sub s7
      refine RL.ev (.assign rfl) rfl rfl ?_
      refine RL.store sh43 rfl rfl rfl hb_5 (by exact Nat.le_of_ble_eq_true rfl) (by rfl) rfl (fun w8 z8 hb_5 a8 => ?_)
      have S := S.upd a8 ge_5
      have hb_3 := hb_3.upd a8 n_3__5
      have hb_5 : Has w8 b_5 ([.int .i64 3, .int .i64 0, .int .i64 0]) _ := hb_5.now (by kernel_rfl)
      refine RL.nil (RC.back ?_)
      refine RC.done (rs := [.tmp 4, .cell 5 43]) (vs := [_, _]) rfl rfl ⟨rfl, ⟨_, rfl, .inr ⟨[.int .i64 3, .int .i64 0, .int .i64 0], sh43, hb_5.row, rfl⟩⟩, trivial⟩ ?_
      -- end 1
      have he : pairsM l o = (l, ⟨3, 0, 0⟩) := (by rw [hdef, if_neg (by omega), if_neg (by omega), if_neg (by omega), if_neg (by omega), if_pos is0])
      rw [he]
      exact ⟨S, _, _, M, rfl, hc, hF.sub S, Up.refl _ _⟩
    ·
      have is1 : is = true := (by simpa using h5)
      obtain ⟨x, hx, hxk⟩ := g0.1 is1
      have hnl := lt_of_get hx
      have hva := valAt_get hx
      refine RC.skip (RC.back ?_)
      refine RC.seq ?_
      refine RC.region rfl ?_
      refine RL.ev (.move rfl) rfl rfl ?_
      refine RL.ev (.move rfl) rfl rfl ?_
      refine RL.ev (.indexS sl35 rfl rfl (by omega) (hl.is (i := 0) (by simp only [List.length_map, List.length_cons, List.length_nil]; omega))) rfl rfl ?_
      refine RL.ev (.fieldA fo82_1 rfl) rfl rfl ?_
      refine RL.ev (.load1 sh2 rfl ((hl.sub S).cell (enc := It.cells) (j := 1) hx rfl)) rfl rfl ?_
      refine RL.ev (.buildS ze43 pl43 rfl rfl) rfl rfl ?_
      refine RL.alloc ze43 rfl rfl (fun b_8 w_8 e_8 z_8 hb_8 s_8 => ?_)
      have ge_8 := S.le e_8
      have n_3__8 := hb_3.ne e_8
      have n_5__8 := hb_5.ne e_8
      have S := S.trans s_8
      have hb_3 := hb_3.sub s_8
      have hb_5 := hb_5.sub s_8
      refine RL.store sh43 rfl rfl rfl hb_8 (by exact Nat.le_of_ble_eq_true rfl) (by rfl) rfl (fun w9 z9 hb_8 a9 => ?_)
      have S := S.upd a9 ge_8
      have hb_3 := hb_3.upd a9 n_3__8
      have hb_5 := hb_5.upd a9 n_5__8
      have hb_8 : Has w9 b_8 ([.int .i64 0, .int .i64 x.v, .int .i64 0]) _ := hb_8.now (by kernel_rfl)
      refine RL.nil (RC.back ?_)
      refine RC.seq ?_
      refine RC.seq ?_
      refine RC.region rfl ?_
      refine RL.ev (.field0 fo40_1 rfl) rfl rfl ?_
      refine RL.ev (.load1 sh3 rfl (hb_3.cell rfl)) rfl rfl ?_
      refine RL.ev (.bin rfl rfl rfl) rfl rfl ?_
      refine RL.nil (RC.back ?_)
      refine RC.cond_dec rfl (fun h10 => ?_) (fun h10 => ?_)
      ·
        have k35 := h10
        refine RC.region rfl ?_
        refine RL.ev (.move rfl) rfl rfl ?_
        refine RL.call rfl ok77 (c_clone l a c _ rfl w9 (hl.sub S) (by omega)) rfl rfl ?_
        rintro _ w11 ⟨a7, c7, rfl, o7, s12⟩
        have lt3 := hb_3.lt
        have lt5 := hb_5.lt
        have ltX := hb_8.lt
        have szS := S.size
        have S := S.trans s12
        have hb_3 := hb_3.sub s12
        have hb_5 := hb_5.sub s12
        have hb_8 := hb_8.sub s12
        obtain ⟨b_g, ex, e1, hbg, hb_g, hex, hcm⟩ := o7.whole.resolve_left (fun q => by have := congrArg List.length q.2; simp only [List.length_map, List.length_nil] at this; omega)
        rw [List.length_map] at e1 hcm
        injection e1 with f1 f2 f3
        subst f1 f3
        have ge_g : w.heap.size ≤ b_g := Nat.le_trans szS hbg
        have nb_3_b_g : b_3 ≠ b_g := by omega
        have nb_5_b_g : b_5 ≠ b_g := by omega
        have nb_8_b_g : b_8 ≠ b_g := by omega
        refine RL.ev (.move rfl) rfl rfl ?_
        refine RL.ev (.move rfl) rfl rfl ?_
        refine RL.ev (.as (.bin rfl rfl rfl) (wi64 (y := ((n' + 1 : Nat) : Int)) (by omega) (by omega))) rfl rfl ?_
        refine RL.call rfl ok76 (c_delete l b_g n' ex hex (Nat.le_trans hcm (by decide)) hnl w11 hb_g) rfl rfl ?_
        rintro _ w13 ⟨rfl, ⟨R41, hb_g, hR41, hT41⟩, a41⟩
        have S := S.upd a41 ge_g
        have hb_3 := hb_3.upd a41 nb_3_b_g
        have hb_5 := hb_5.upd a41 nb_5_b_g
        have hb_8 := hb_8.upd a41 nb_8_b_g
        refine RL.ev (.assign rfl) rfl rfl ?_
        refine RL.nil (RC.back ?_)
        refine RC.seq ?_
        refine RC.drawD (fun k => k = b_5) [3] w13.heap.size 4 rfl rfl mxo (fun w15 s16 => ?_)
        have hNN : ∀ k, ((k = b_5) ∨ w13.heap.size ≤ k) → w.heap.size ≤ k := fun k e => e.elim (fun e => e ▸ ge_5) (fun e => Nat.le_trans S.size e)
        have ent_S := S.size
        have hN0 : ∀ k, w13.heap.size ≤ k → w.heap.size ≤ k := fun k e => Nat.le_trans S.size e
        have ltD_b_3 := hb_3.lt
        have ltD_b_5 := hb_5.lt
        have ltD_b_8 := hb_8.lt
        have ltD_b_g := hb_g.lt
        have szD := Nat.le_refl w13.heap.size
        have S := S.trans s16
        have hb_3 := hb_3.sub s16
        have hb_5 := hb_5.sub s16
        have hb_8 := hb_8.sub s16
        have hb_g := hb_g.sub s16
        have szD := Nat.le_trans szD s16.size
        refine RD.take 0 rfl (by kernel_rfl) (by kernel_rfl) (by kernel_rfl) (fun w' s' => .move rfl) rfl rfl ?_
        refine RD.take 1 rfl (by kernel_rfl) (by kernel_rfl) (by kernel_rfl) (fun w' s' => .loadR ([.int .i64 0, .int .i64 x.v, .int .i64 0]) sh43 rfl (hb_8.step s' (fun e => e.elim (fun e => n_5__8.symm e) (fun e => Nat.not_le.2 ltD_b_8 e))).row rfl) rfl rfl ?_
        refine RD.take 2 rfl (by kernel_rfl) (by kernel_rfl) (by kernel_rfl) (fun w' s' => .assign rfl) rfl rfl ?_
        refine RD.all [3] (by kernel_rfl) rfl (RDs.cons rfl ?_ (RDs.nil))
        refine RL.store sh43 rfl rfl rfl hb_5 (by exact Nat.le_of_ble_eq_true rfl) (by rfl) rfl (fun w17 z17 hb_5 a17 => ?_)
        have S := S.upd a17 ge_5
        have hb_3 := hb_3.upd a17 n_3__5
        have hb_8 := hb_8.upd a17 n_5__8.symm
        have hb_g := hb_g.upd a17 nb_5_b_g.symm
        have szD := Nat.le_trans szD a17.size
        have hb_5 : Has w17 b_5 ([.int .i64 0, .int .i64 x.v, .int .i64 0]) _ := hb_5.now (by kernel_rfl)
        refine RD.backW rfl (a17.mono fun k _ e => e ▸ (.inl (rfl))) ?_
        refine RD.done (by kernel_rfl) (RC.back ?_)
        refine RC.done (rs := [.tmp 4, .cell 5 43]) (vs := [_, _]) rfl rfl ⟨rfl, ⟨_, rfl, .inr ⟨[.int .i64 0, .int .i64 x.v, .int .i64 0], sh43, hb_5.row, rfl⟩⟩, trivial⟩ ?_
        -- end 2
        exact absurd k35 (by omega)
      ·
        have k35 := h10
        refine RC.skip (RC.back ?_)
        refine RC.seq ?_
        refine RC.drawD (fun k => k = b_5) [3] w9.heap.size 4 rfl rfl mxo (fun w18 s19 => ?_)
        have hNN : ∀ k, ((k = b_5) ∨ w9.heap.size ≤ k) → w.heap.size ≤ k := fun k e => e.elim (fun e => e ▸ ge_5) (fun e => Nat.le_trans S.size e)
        have ent_S := S.size
        have hN0 : ∀ k, w9.heap.size ≤ k → w.heap.size ≤ k := fun k e => Nat.le_trans S.size e
        have ltD_b_3 := hb_3.lt
        have ltD_b_5 := hb_5.lt
        have ltD_b_8 := hb_8.lt
        have szD := Nat.le_refl w9.heap.size
        have S := S.trans s19
        have hb_3 := hb_3.sub s19
        have hb_5 := hb_5.sub s19
        have hb_8 := hb_8.sub s19
        have szD := Nat.le_trans szD s19.size
        refine RD.take 0 rfl (by kernel_rfl) (by kernel_rfl) (by kernel_rfl) (fun w' s' => .move rfl) rfl rfl ?_
        refine RD.take 1 rfl (by kernel_rfl) (by kernel_rfl) (by kernel_rfl) (fun w' s' => .loadR ([.int .i64 0, .int .i64 x.v, .int .i64 0]) sh43 rfl (hb_8.step s' (fun e => e.elim (fun e => n_5__8.symm e) (fun e => Nat.not_le.2 ltD_b_8 e))).row rfl) rfl rfl ?_
        refine RD.take 2 rfl (by kernel_rfl) (by kernel_rfl) (by kernel_rfl) (fun w' s' => .assign rfl) rfl rfl ?_
        refine RD.all [3] (by kernel_rfl) rfl (RDs.cons rfl ?_ (RDs.nil))
        refine RL.store sh43 rfl rfl rfl hb_5 (by exact Nat.le_of_ble_eq_true rfl) (by rfl) rfl (fun w20 z20 hb_5 a20 => ?_)
        have S := S.upd a20 ge_5
        have hb_3 := hb_3.upd a20 n_3__5
        have hb_8 := hb_8.upd a20 n_5__8.symm
        have szD := Nat.le_trans szD a20.size
        have hb_5 : Has w20 b_5 ([.int .i64 0, .int .i64 x.v, .int .i64 0]) _ := hb_5.now (by kernel_rfl)
        refine RD.backW rfl (a20.mono fun k _ e => e ▸ (.inl (rfl))) ?_
        refine RD.done (by kernel_rfl) (RC.back ?_)
        refine RC.done (rs := [.tmp 4, .cell 5 43]) (vs := [_, _]) rfl rfl ⟨rfl, ⟨_, rfl, .inr ⟨[.int .i64 0, .int .i64 x.v, .int .i64 0], sh43, hb_5.row, rfl⟩⟩, trivial⟩ ?_
        -- end 3
        have he : pairsM l o = (l, ⟨0, x.v, 0⟩) := (by rw [hdef, if_neg (by omega), if_neg (by omega), if_neg (by omega), if_neg (by omega), if_neg (by rw [is1]; simp), if_neg k35, hva])
        rw [he]
        exact ⟨S, _, _, M, rfl, hc, hF.sub S, Up.refl _ _⟩
  ·
    have n20 := h3
    refine RC.region rfl ?_
    refine RL.ev (.bin rfl rfl rfl) rfl rfl ?_
    refine RL.ev (.assign rfl) rfl rfl ?_
    refine RL.nil (RC.back ?_)
    refine RC.cond_dec rfl (fun h21 => ?_) (fun h21 => ?_)
    ·
      have k20 := h21
      refine RC.seq ?_
      refine RC.seq ?_
      refine RC.region rfl ?_
      refine RL.ev (.move rfl) rfl rfl ?_
      refine RL.ev (.not rfl) rfl rfl ?_
      refine RL.nil (RC.back ?_)
      refine RC.cond rfl (fun h22 => ?_) (fun h22 => ?_)
      ·
        have is0 : is = false := (by simpa using h22)
        refine RC.seq ?_
        refine RC.region rfl ?_
        refine RL.ev (.move rfl) rfl rfl ?_
        refine RL.call rfl ok75 (c_none w1) rfl rfl ?_
        rintro _ w23 ⟨rfl, s24⟩
        have S := S.trans s24
        have hb_3 := hb_3.sub s24
        have hb_5 := hb_5.sub s24
        refine RL.ev (.assign rfl) rfl rfl ?_
        refine RL.store sh43 rfl rfl rfl hb_5 (by exact Nat.le_of_ble_eq_true rfl) (by rfl) rfl (fun w25 z25 hb_5 a25 => ?_)
        have S := S.upd a25 ge_5
        have hb_3 := hb_3.upd a25 n_3__5
        have hb_5 : Has w25 b_5 ([.int .i64 3, .int .i64 0, .int .i64 0]) _ := hb_5.now (by kernel_rfl)
        refine RL.nil (RC.back ?_)
        refine RC.done (rs := [.tmp 4, .cell 5 43]) (vs := [_, _]) rfl rfl ⟨rfl, ⟨_, rfl, .inr ⟨[.int .i64 3, .int .i64 0, .int .i64 0], sh43, hb_5.row, rfl⟩⟩, trivial⟩ ?_
        -- end 4
        have he : pairsM l o = (l, ⟨3, 0, 0⟩) := (by rw [hdef, if_neg (by omega), if_neg (by omega), if_neg (by omega), if_neg (by omega), if_pos is0])
        rw [he]
        exact ⟨S, _, _, M, rfl, hc, hF.sub S, Up.refl _ _⟩
      ·
        have is1 : is = true := (by simpa using h22)
        obtain ⟨x, hx, hxk⟩ := g0.1 is1
        have hnl := lt_of_get hx
        have hva := valAt_get hx
        refine RC.skip (RC.back ?_)
        refine RC.seq ?_
        refine RC.region rfl ?_
        refine RL.ev (.move rfl) rfl rfl ?_
        refine RL.ev (.move rfl) rfl rfl ?_
        refine RL.ev (.indexS sl35 rfl rfl (by omega) (hl.is (i := 0) (by simp only [List.length_map, List.length_cons, List.length_nil]; omega))) rfl rfl ?_
        refine RL.ev (.fieldA fo82_1 rfl) rfl rfl ?_
        refine RL.ev (.load1 sh2 rfl ((hl.sub S).cell (enc := It.cells) (j := 1) hx rfl)) rfl rfl ?_
        refine RL.ev (.buildS ze43 pl43 rfl rfl) rfl rfl ?_
        refine RL.alloc ze43 rfl rfl (fun b_8 w_8 e_8 z_8 hb_8 s_8 => ?_)
        have ge_8 := S.le e_8
        have n_3__8 := hb_3.ne e_8
        have n_5__8 := hb_5.ne e_8
        have S := S.trans s_8
        have hb_3 := hb_3.sub s_8
        have hb_5 := hb_5.sub s_8
        refine RL.store sh43 rfl rfl rfl hb_8 (by exact Nat.le_of_ble_eq_true rfl) (by rfl) rfl (fun w26 z26 hb_8 a26 => ?_)
        have S := S.upd a26 ge_8
        have hb_3 := hb_3.upd a26 n_3__8
        have hb_5 := hb_5.upd a26 n_5__8
        have hb_8 : Has w26 b_8 ([.int .i64 0, .int .i64 x.v, .int .i64 0]) _ := hb_8.now (by kernel_rfl)
        refine RL.nil (RC.back ?_)
        refine RC.seq ?_
        refine RC.seq ?_
        refine RC.region rfl ?_
        refine RL.ev (.field0 fo40_1 rfl) rfl rfl ?_
        refine RL.ev (.load1 sh3 rfl (hb_3.cell rfl)) rfl rfl ?_
        refine RL.ev (.bin rfl rfl rfl) rfl rfl ?_
        refine RL.nil (RC.back ?_)
        refine RC.cond_dec rfl (fun h27 => ?_) (fun h27 => ?_)
        ·
          have k35 := h27
          refine RC.region rfl ?_
          refine RL.ev (.move rfl) rfl rfl ?_
          refine RL.call rfl ok77 (c_clone l a c _ rfl w26 (hl.sub S) (by omega)) rfl rfl ?_
          rintro _ w28 ⟨a7, c7, rfl, o7, s29⟩
          have lt3 := hb_3.lt
          have lt5 := hb_5.lt
          have ltX := hb_8.lt
          have szS := S.size
          have S := S.trans s29
          have hb_3 := hb_3.sub s29
          have hb_5 := hb_5.sub s29
          have hb_8 := hb_8.sub s29
          obtain ⟨b_g, ex, e1, hbg, hb_g, hex, hcm⟩ := o7.whole.resolve_left (fun q => by have := congrArg List.length q.2; simp only [List.length_map, List.length_nil] at this; omega)
          rw [List.length_map] at e1 hcm
          injection e1 with f1 f2 f3
          subst f1 f3
          have ge_g : w.heap.size ≤ b_g := Nat.le_trans szS hbg
          have nb_3_b_g : b_3 ≠ b_g := by omega
          have nb_5_b_g : b_5 ≠ b_g := by omega
          have nb_8_b_g : b_8 ≠ b_g := by omega
          refine RL.ev (.move rfl) rfl rfl ?_
          refine RL.ev (.move rfl) rfl rfl ?_
          refine RL.ev (.as (.bin rfl rfl rfl) (wi64 (y := ((n' + 1 : Nat) : Int)) (by omega) (by omega))) rfl rfl ?_
          refine RL.call rfl ok76 (c_delete l b_g n' ex hex (Nat.le_trans hcm (by decide)) hnl w28 hb_g) rfl rfl ?_
          rintro _ w30 ⟨rfl, ⟨R41, hb_g, hR41, hT41⟩, a41⟩
          have S := S.upd a41 ge_g
          have hb_3 := hb_3.upd a41 nb_3_b_g
          have hb_5 := hb_5.upd a41 nb_5_b_g
          have hb_8 := hb_8.upd a41 nb_8_b_g
          refine RL.ev (.assign rfl) rfl rfl ?_
          refine RL.nil (RC.back ?_)
          refine RC.seq ?_
          refine RC.drawD (fun k => k = b_5) [3] w30.heap.size 4 rfl rfl mxo (fun w32 s33 => ?_)
          have hNN : ∀ k, ((k = b_5) ∨ w30.heap.size ≤ k) → w.heap.size ≤ k := fun k e => e.elim (fun e => e ▸ ge_5) (fun e => Nat.le_trans S.size e)
          have ent_S := S.size
          have hN0 : ∀ k, w30.heap.size ≤ k → w.heap.size ≤ k := fun k e => Nat.le_trans S.size e
          have ltD_b_3 := hb_3.lt
          have ltD_b_5 := hb_5.lt
          have ltD_b_8 := hb_8.lt
          have ltD_b_g := hb_g.lt
          have szD := Nat.le_refl w30.heap.size
          have S := S.trans s33
          have hb_3 := hb_3.sub s33
          have hb_5 := hb_5.sub s33
          have hb_8 := hb_8.sub s33
          have hb_g := hb_g.sub s33
          have szD := Nat.le_trans szD s33.size
          refine RD.take 0 rfl (by kernel_rfl) (by kernel_rfl) (by kernel_rfl) (fun w' s' => .move rfl) rfl rfl ?_
          refine RD.take 1 rfl (by kernel_rfl) (by kernel_rfl) (by kernel_rfl) (fun w' s' => .loadR ([.int .i64 0, .int .i64 x.v, .int .i64 0]) sh43 rfl (hb_8.step s' (fun e => e.elim (fun e => n_5__8.symm e) (fun e => Nat.not_le.2 ltD_b_8 e))).row rfl) rfl rfl ?_
          refine RD.take 2 rfl (by kernel_rfl) (by kernel_rfl) (by kernel_rfl) (fun w' s' => .assign rfl) rfl rfl ?_
          refine RD.all [3] (by kernel_rfl) rfl (RDs.cons rfl ?_ (RDs.nil))
          refine RL.store sh43 rfl rfl rfl hb_5 (by exact Nat.le_of_ble_eq_true rfl) (by rfl) rfl (fun w34 z34 hb_5 a34 => ?_)
          have S := S.upd a34 ge_5
          have hb_3 := hb_3.upd a34 n_3__5
          have hb_8 := hb_8.upd a34 n_5__8.symm
          have hb_g := hb_g.upd a34 nb_5_b_g.symm
          have szD := Nat.le_trans szD a34.size
          have hb_5 : Has w34 b_5 ([.int .i64 0, .int .i64 x.v, .int .i64 0]) _ := hb_5.now (by kernel_rfl)
          refine RD.backW rfl (a34.mono fun k _ e => e ▸ (.inl (rfl))) ?_
          refine RD.done (by kernel_rfl) (RC.back ?_)
          refine RC.done (rs := [.tmp 4, .cell 5 43]) (vs := [_, _]) rfl rfl ⟨rfl, ⟨_, rfl, .inr ⟨[.int .i64 0, .int .i64 x.v, .int .i64 0], sh43, hb_5.row, rfl⟩⟩, trivial⟩ ?_
          -- end 5
          have he : pairsM l o = (l.take n' ++ l.drop (n' + 1), ⟨0, x.v, 0⟩) := (by rw [hdef, if_neg (by omega), if_neg (by omega), if_neg (by omega), if_neg (by omega), if_neg (by rw [is1]; simp), if_pos k35, hva, del_has hs hx hxk])
          rw [he]
          exact ⟨S, _, _, (· = b_g), by rw [show (l.take n' ++ l.drop (n' + 1)).length = l.length - 1 from by rw [List.length_append, List.length_take, List.length_drop]; omega]; rfl, by rw [List.length_append, List.length_take, List.length_drop]; omega, (by have q := (Has.ftW hb_g).imp (fun u h => Has.slN h hR41 (l.length - 1)); rw [hT41] at q; exact q), fun k hk => .inr (by rw [hk]; exact ge_g)⟩
        ·
          have k35 := h27
          refine RC.skip (RC.back ?_)
          refine RC.seq ?_
          refine RC.drawD (fun k => k = b_5) [3] w26.heap.size 4 rfl rfl mxo (fun w35 s36 => ?_)
          have hNN : ∀ k, ((k = b_5) ∨ w26.heap.size ≤ k) → w.heap.size ≤ k := fun k e => e.elim (fun e => e ▸ ge_5) (fun e => Nat.le_trans S.size e)
          have ent_S := S.size
          have hN0 : ∀ k, w26.heap.size ≤ k → w.heap.size ≤ k := fun k e => Nat.le_trans S.size e
          have ltD_b_3 := hb_3.lt
          have ltD_b_5 := hb_5.lt
          have ltD_b_8 := hb_8.lt
          have szD := Nat.le_refl w26.heap.size
          have S := S.trans s36
          have hb_3 := hb_3.sub s36
          have hb_5 := hb_5.sub s36
          have hb_8 := hb_8.sub s36
          have szD := Nat.le_trans szD s36.size
          refine RD.take 0 rfl (by kernel_rfl) (by kernel_rfl) (by kernel_rfl) (fun w' s' => .move rfl) rfl rfl ?_
          refine RD.take 1 rfl (by kernel_rfl) (by kernel_rfl) (by kernel_rfl) (fun w' s' => .loadR ([.int .i64 0, .int .i64 x.v, .int .i64 0]) sh43 rfl (hb_8.step s' (fun e => e.elim (fun e => n_5__8.symm e) (fun e => Nat.not_le.2 ltD_b_8 e))).row rfl) rfl rfl ?_
          refine RD.take 2 rfl (by kernel_rfl) (by kernel_rfl) (by kernel_rfl) (fun w' s' => .assign rfl) rfl rfl ?_
          refine RD.all [3] (by kernel_rfl) rfl (RDs.cons rfl ?_ (RDs.nil))
          refine RL.store sh43 rfl rfl rfl hb_5 (by exact Nat.le_of_ble_eq_true rfl) (by rfl) rfl (fun w37 z37 hb_5 a37 => ?_)
          have S := S.upd a37 ge_5
          have hb_3 := hb_3.upd a37 n_3__5
          have hb_8 := hb_8.upd a37 n_5__8.symm
          have szD := Nat.le_trans szD a37.size
          have hb_5 : Has w37 b_5 ([.int .i64 0, .int .i64 x.v, .int .i64 0]) _ := hb_5.now (by kernel_rfl)
          refine RD.backW rfl (a37.mono fun k _ e => e ▸ (.inl (rfl))) ?_
          refine RD.done (by kernel_rfl) (RC.back ?_)
          refine RC.done (rs := [.tmp 4, .cell 5 43]) (vs := [_, _]) rfl rfl ⟨rfl, ⟨_, rfl, .inr ⟨[.int .i64 0, .int .i64 x.v, .int .i64 0], sh43, hb_5.row, rfl⟩⟩, trivial⟩ ?_
          -- end 6
          exact absurd k20 (by omega)
    ·
      have n20 := h21
      refine RC.seq ?_
      refine RC.region rfl ?_
      refine RL.ev (.bin rfl rfl rfl) rfl rfl ?_
      refine RL.ev (.assign rfl) rfl rfl ?_
      refine RL.nil (RC.back ?_)
      refine RC.cond_dec rfl (fun h38 => ?_) (fun h38 => ?_)
      ·
        have k44 := h38
        refine RC.seq ?_
        refine RC.region rfl ?_
        refine RL.ev (.field0 fo40_2 rfl) rfl rfl ?_
        refine RL.ev (.load1 sh2 rfl (hb_3.cell rfl)) rfl rfl ?_
        refine RL.ev (.field0 fo40_3 rfl) rfl rfl ?_
        refine RL.ev (.load1 sh2 rfl (hb_3.cell rfl)) rfl rfl ?_
        refine RL.ev (.buildS ze82 pl82 rfl rfl) rfl rfl ?_
        refine RL.alloc ze82 rfl rfl (fun b_9 w_9 e_9 z_9 hb_9 s_9 => ?_)
        have ge_9 := S.le e_9
        have n_3__9 := hb_3.ne e_9
        have n_5__9 := hb_5.ne e_9
        have S := S.trans s_9
        have hb_3 := hb_3.sub s_9
        have hb_5 := hb_5.sub s_9
        refine RL.store sh82 rfl rfl rfl hb_9 (by exact Nat.le_of_ble_eq_true rfl) (by rfl) rfl (fun w39 z39 hb_9 a39 => ?_)
        have S := S.upd a39 ge_9
        have hb_3 := hb_3.upd a39 n_3__9
        have hb_5 := hb_5.upd a39 n_5__9
        have hb_9 : Has w39 b_9 ([.int .i64 o.a, .int .i64 o.b]) _ := hb_9.now (by kernel_rfl)
        refine RL.nil (RC.back ?_)
        refine RC.seq ?_
        refine RC.seq ?_
        refine RC.region rfl ?_
        refine RL.ev (.move rfl) rfl rfl ?_
        refine RL.nil (RC.back ?_)
        refine RC.cond rfl (fun h40 => ?_) (fun h40 => ?_)
        ·
          have is1 : is = true := h40
          obtain ⟨x, hx, hxk⟩ := g0.1 is1
          have hnl := lt_of_get hx
          have hva := valAt_get hx
          refine RC.seq ?_
          refine RC.region rfl ?_
          refine RL.ev (.move rfl) rfl rfl ?_
          refine RL.ev (.move rfl) rfl rfl ?_
          refine RL.ev (.indexS sl35 rfl rfl (by omega) (hl.is (i := 0) (by simp only [List.length_map, List.length_cons, List.length_nil]; omega))) rfl rfl ?_
          refine RL.ev (.fieldA fo82_1 rfl) rfl rfl ?_
          refine RL.ev (.load1 sh2 rfl ((hl.sub S).cell (enc := It.cells) (j := 1) hx rfl)) rfl rfl ?_
          refine RL.ev (.buildS ze43 pl43 rfl rfl) rfl rfl ?_
          refine RL.alloc ze43 rfl rfl (fun b_10 w_10 e_10 z_10 hb_10 s_10 => ?_)
          have ge_10 := S.le e_10
          have n_3__10 := hb_3.ne e_10
          have n_5__10 := hb_5.ne e_10
          have n_9__10 := hb_9.ne e_10
          have S := S.trans s_10
          have hb_3 := hb_3.sub s_10
          have hb_5 := hb_5.sub s_10
          have hb_9 := hb_9.sub s_10
          refine RL.store sh43 rfl rfl rfl hb_10 (by exact Nat.le_of_ble_eq_true rfl) (by rfl) rfl (fun w41 z41 hb_10 a41 => ?_)
          have S := S.upd a41 ge_10
          have hb_3 := hb_3.upd a41 n_3__10
          have hb_5 := hb_5.upd a41 n_5__10
          have hb_9 := hb_9.upd a41 n_9__10
          have hb_10 : Has w41 b_10 ([.int .i64 0, .int .i64 1, .int .i64 x.v]) _ := hb_10.now (by kernel_rfl)
          refine RL.nil (RC.back ?_)
          refine RC.seq ?_
          refine RC.region rfl ?_
          refine RL.ev (.move rfl) rfl rfl ?_
          refine RL.call rfl ok77 (c_clone l a c _ rfl w41 (hl.sub S) (by omega)) rfl rfl ?_
          rintro _ w42 ⟨a7, c7, rfl, o7, s43⟩
          have lt3 := hb_3.lt
          have lt5 := hb_5.lt
          have lt9 := hb_9.lt
          have ltX := hb_10.lt
          have szS := S.size
          have S := S.trans s43
          have hb_3 := hb_3.sub s43
          have hb_5 := hb_5.sub s43
          have hb_9 := hb_9.sub s43
          have hb_10 := hb_10.sub s43
          obtain ⟨b_g, ex, e1, hbg, hb_g, hex, hcm⟩ := o7.whole.resolve_left (fun q => by have := congrArg List.length q.2; simp only [List.length_map, List.length_nil] at this; omega)
          rw [List.length_map] at e1 hcm
          injection e1 with f1 f2 f3
          subst f1 f3
          have ge_g : w.heap.size ≤ b_g := Nat.le_trans szS hbg
          have nb_3_b_g : b_3 ≠ b_g := by omega
          have nb_5_b_g : b_5 ≠ b_g := by omega
          have nb_10_b_g : b_10 ≠ b_g := by omega
          have nb_9_b_g : b_9 ≠ b_g := by omega
          refine RL.ev (.assign rfl) rfl rfl ?_
          refine RL.nil (RC.back ?_)
          refine RC.seq ?_
          refine RC.region rfl ?_
          refine RL.ev (.move rfl) rfl rfl ?_
          refine RL.ev (.move rfl) rfl rfl ?_
          refine RL.ev (.loadR ([.int .i64 o.a, .int .i64 o.b]) sh82 rfl (hb_9.row) rfl) rfl rfl ?_
          refine RL.ev (.indexO sl35 rfl rfl (by omega)) rfl rfl ?_
          refine RL.store sh82 rfl rfl rfl hb_g (by have q := flat_len (l.map It.cells ++ ex) (fun r hr => (List.mem_append.1 hr).elim (it_rows r) (hex r)); rw [q, List.length_append, List.length_map]; show 0 + n' * 2 + 2 ≤ _; omega) (by rfl) rfl (fun w44 z44 hb_g a44 => ?_)
          have S := S.upd a44 ge_g
          have hb_3 := hb_3.upd a44 nb_3_b_g
          have hb_5 := hb_5.upd a44 nb_5_b_g
          have hb_9 := hb_9.upd a44 nb_9_b_g
          have hb_10 := hb_10.upd a44 nb_10_b_g
          rw [Nat.zero_add] at hb_g
          have hrw : ∀ r ∈ l.map It.cells ++ ex, r.length = 2 := (fun r hr => (List.mem_append.1 hr).elim (it_rows r) (hex r))
          have hb_g := row_set0 (sz := 2) (i := n') hb_g hrw (by rw [List.length_append, List.length_map]; omega) rfl
          refine RL.nil (RC.back ?_)
          refine RC.seq ?_
          refine RC.drawD (fun k => k = b_5) [3] w44.heap.size 4 rfl rfl mxo (fun w45 s46 => ?_)
          have hNN : ∀ k, ((k = b_5) ∨ w44.heap.size ≤ k) → w.heap.size ≤ k := fun k e => e.elim (fun e => e ▸ ge_5) (fun e => Nat.le_trans S.size e)
          have ent_S := S.size
          have hN0 : ∀ k, w44.heap.size ≤ k → w.heap.size ≤ k := fun k e => Nat.le_trans S.size e
          have ltD_b_3 := hb_3.lt
          have ltD_b_5 := hb_5.lt
          have ltD_b_9 := hb_9.lt
          have ltD_b_10 := hb_10.lt
          have ltD_b_g := hb_g.lt
          have szD := Nat.le_refl w44.heap.size
          have S := S.trans s46
          have hb_3 := hb_3.sub s46
          have hb_5 := hb_5.sub s46
          have hb_9 := hb_9.sub s46
          have hb_10 := hb_10.sub s46
          have hb_g := hb_g.sub s46
          have szD := Nat.le_trans szD s46.size
          refine RD.take 0 rfl (by kernel_rfl) (by kernel_rfl) (by kernel_rfl) (fun w' s' => .move rfl) rfl rfl ?_
          refine RD.take 1 rfl (by kernel_rfl) (by kernel_rfl) (by kernel_rfl) (fun w' s' => .loadR ([.int .i64 0, .int .i64 1, .int .i64 x.v]) sh43 rfl (hb_10.step s' (fun e => e.elim (fun e => n_5__10.symm e) (fun e => Nat.not_le.2 ltD_b_10 e))).row rfl) rfl rfl ?_
          refine RD.take 2 rfl (by kernel_rfl) (by kernel_rfl) (by kernel_rfl) (fun w' s' => .assign rfl) rfl rfl ?_
          refine RD.all [3] (by kernel_rfl) rfl (RDs.cons rfl ?_ (RDs.nil))
          refine RL.store sh43 rfl rfl rfl hb_5 (by exact Nat.le_of_ble_eq_true rfl) (by rfl) rfl (fun w47 z47 hb_5 a47 => ?_)
          have S := S.upd a47 ge_5
          have hb_3 := hb_3.upd a47 n_3__5
          have hb_9 := hb_9.upd a47 n_5__9.symm
          have hb_10 := hb_10.upd a47 n_5__10.symm
          have hb_g := hb_g.upd a47 nb_5_b_g.symm
          have szD := Nat.le_trans szD a47.size
          have hb_5 : Has w47 b_5 ([.int .i64 0, .int .i64 1, .int .i64 x.v]) _ := hb_5.now (by kernel_rfl)
          refine RD.backW rfl (a47.mono fun k _ e => e ▸ (.inl (rfl))) ?_
          refine RD.done (by kernel_rfl) (RC.back ?_)
          refine RC.done (rs := [.tmp 4, .cell 5 43]) (vs := [_, _]) rfl rfl ⟨rfl, ⟨_, rfl, .inr ⟨[.int .i64 0, .int .i64 1, .int .i64 x.v], sh43, hb_5.row, rfl⟩⟩, trivial⟩ ?_
          -- end 7
          have hst : (l.map It.cells ++ ex).set n' [.int .i64 o.a, .int .i64 o.b] = (l.set n' ⟨o.a, o.b⟩).map It.cells ++ ex := (by rw [List.set_append_left _ _ (by rw [List.length_map]; exact hnl), List.map_set]; rfl)
          have he : pairsM l o = (l.set n' ⟨o.a, o.b⟩, ⟨0, 1, x.v⟩) := (by rw [hdef, if_neg (by omega), if_pos k44, if_neg (by rw [is1]; simp), if_pos is1, hva, put_has hs hx hxk, List.set_eq_take_append_cons_drop, if_pos hnl])
          rw [he]
          exact ⟨S, _, _, (· = b_g), by rw [List.length_set]; rfl, by rw [List.length_set]; omega, (by have q : Has _ b_g ((l.map It.cells ++ ex).set n' [.int .i64 o.a, .int .i64 o.b]).flatten _ := hb_g; rw [hst] at q; exact (Has.ftW q).imp (fun u h => wh_sl h)), fun k hk => .inr (by rw [hk]; exact ge_g)⟩
        ·
          have is0 : is = false := h40
          refine RC.skip (RC.back ?_)
          refine RC.seq ?_
          refine RC.seq ?_
          refine RC.region rfl ?_
          refine RL.ev (.move rfl) rfl rfl ?_
          refine RL.ev (.len sl35 rfl) rfl rfl ?_
          refine RL.ev (.bin rfl rfl rfl) rfl rfl ?_
          refine RL.ev (.move rfl) rfl rfl ?_
          refine RL.split 69 rfl (fun h48 => ?_) (fun h48 => ?_)
          ·
            have g69 : 200 ≤ l.length := (by omega)
            refine RL.off rfl rfl ?_
            refine RL.off rfl rfl ?_
            refine RL.off rfl rfl ?_
            refine RL.off rfl rfl ?_
            refine RL.off rfl rfl ?_
            refine RL.off rfl rfl ?_
            refine RL.off rfl rfl ?_
            refine RL.off rfl rfl ?_
            refine RL.off rfl rfl ?_
            refine RL.off rfl rfl ?_
            refine RL.ev (.pick_t rfl rfl) rfl rfl ?_
            refine RL.nil (RC.back ?_)
            refine RC.cond_t rfl ?_
            refine RC.seq ?_
            refine RC.region rfl ?_
            refine RL.ev (.move rfl) rfl rfl ?_
            refine RL.call rfl ok78 (c_full w39) rfl rfl ?_
            rintro _ w49 ⟨rfl, s50⟩
            have S := S.trans s50
            have hb_3 := hb_3.sub s50
            have hb_5 := hb_5.sub s50
            have hb_9 := hb_9.sub s50
            refine RL.ev (.assign rfl) rfl rfl ?_
            refine RL.store sh43 rfl rfl rfl hb_5 (by exact Nat.le_of_ble_eq_true rfl) (by rfl) rfl (fun w51 z51 hb_5 a51 => ?_)
            have S := S.upd a51 ge_5
            have hb_3 := hb_3.upd a51 n_3__5
            have hb_9 := hb_9.upd a51 n_5__9.symm
            have hb_5 : Has w51 b_5 ([.int .i64 5, .int .i64 0, .int .i64 0]) _ := hb_5.now (by kernel_rfl)
            refine RL.nil (RC.back ?_)
            refine RC.done (rs := [.tmp 4, .cell 5 43]) (vs := [_, _]) rfl rfl ⟨rfl, ⟨_, rfl, .inr ⟨[.int .i64 5, .int .i64 0, .int .i64 0], sh43, hb_5.row, rfl⟩⟩, trivial⟩ ?_
            -- end 8
            have he : pairsM l o = (l, ⟨5, 0, 0⟩) := (by rw [hdef, if_neg (by omega), if_pos k44, if_pos ⟨is0, .inl g69⟩])
            rw [he]
            exact ⟨S, _, _, M, rfl, hc, hF.sub S, Up.refl _ _⟩
          ·
            have g69 : ¬ 200 ≤ l.length := (by omega)
            refine RL.ev (.field0 fo40_0 rfl) rfl rfl ?_
            refine RL.ev (.load1 sh3 rfl (hb_3.cell rfl)) rfl rfl ?_
            refine RL.ev (.bin rfl rfl rfl) rfl rfl ?_
            refine RL.ev (.move rfl) rfl rfl ?_
            refine RL.split 73 rfl (fun h52 => ?_) (fun h52 => ?_)
            ·
              have g73 : o.box = 2 := h52
              refine RL.ev (.move rfl) rfl rfl ?_
              refine RL.ev (.field0 fo40_2 rfl) rfl rfl ?_
              refine RL.ev (.load1 sh2 rfl (hb_3.cell rfl)) rfl rfl ?_
              refine RL.call rfl ok52 (c_crowd l a c _ rfl o.a w39 (hl.sub S) (by omega)) rfl rfl ?_
              rintro _ w53 ⟨rfl, s54⟩
              have S := S.trans s54
              have hb_3 := hb_3.sub s54
              have hb_5 := hb_5.sub s54
              have hb_9 := hb_9.sub s54
              refine RL.ev (.bin rfl rfl rfl) rfl rfl ?_
              refine RL.ev (.pick_t rfl rfl) rfl rfl ?_
              refine RL.ev (.pick_f rfl rfl) rfl rfl ?_
              refine RL.nil (RC.back ?_)
              refine RC.cond_dec rfl (fun h55 => ?_) (fun h55 => ?_)
              ·
                have g80 : 9 ≤ crowdL l o.a := (by omega)
                refine RC.seq ?_
                refine RC.region rfl ?_
                refine RL.ev (.move rfl) rfl rfl ?_
                refine RL.call rfl ok78 (c_full w53) rfl rfl ?_
                rintro _ w56 ⟨rfl, s57⟩
                have S := S.trans s57
                have hb_3 := hb_3.sub s57
                have hb_5 := hb_5.sub s57
                have hb_9 := hb_9.sub s57
                refine RL.ev (.assign rfl) rfl rfl ?_
                refine RL.store sh43 rfl rfl rfl hb_5 (by exact Nat.le_of_ble_eq_true rfl) (by rfl) rfl (fun w58 z58 hb_5 a58 => ?_)
                have S := S.upd a58 ge_5
                have hb_3 := hb_3.upd a58 n_3__5
                have hb_9 := hb_9.upd a58 n_5__9.symm
                have hb_5 : Has w58 b_5 ([.int .i64 5, .int .i64 0, .int .i64 0]) _ := hb_5.now (by kernel_rfl)
                refine RL.nil (RC.back ?_)
                refine RC.done (rs := [.tmp 4, .cell 5 43]) (vs := [_, _]) rfl rfl ⟨rfl, ⟨_, rfl, .inr ⟨[.int .i64 5, .int .i64 0, .int .i64 0], sh43, hb_5.row, rfl⟩⟩, trivial⟩ ?_
                -- end 9
                have he : pairsM l o = (l, ⟨5, 0, 0⟩) := (by rw [hdef, if_neg (by omega), if_pos k44, if_pos ⟨is0, .inr ⟨g73, g80⟩⟩])
                rw [he]
                exact ⟨S, _, _, M, rfl, hc, hF.sub S, Up.refl _ _⟩
              ·
                have g80 : ¬ 9 ≤ crowdL l o.a := (by omega)
                refine RC.skip (RC.back ?_)
                refine RC.seq ?_
                refine RC.drawD (fun k => k = b_5) [5, 8] w53.heap.size 9 rfl rfl mxo (fun w59 s60 => ?_)
                have hNN : ∀ k, ((k = b_5) ∨ w53.heap.size ≤ k) → w.heap.size ≤ k := fun k e => e.elim (fun e => e ▸ ge_5) (fun e => Nat.le_trans S.size e)
                have ent_S := S.size
                have hN0 : ∀ k, w53.heap.size ≤ k → w.heap.size ≤ k := fun k e => Nat.le_trans S.size e
                have ltD_b_3 := hb_3.lt
                have ltD_b_5 := hb_5.lt
                have ltD_b_9 := hb_9.lt
                have szD := Nat.le_refl w53.heap.size
                have S := S.trans s60
                have hb_3 := hb_3.sub s60
                have hb_5 := hb_5.sub s60
                have hb_9 := hb_9.sub s60
                have szD := Nat.le_trans szD s60.size
                refine RD.take 0 rfl (by kernel_rfl) (by kernel_rfl) (by kernel_rfl) (fun w' s' => .move rfl) rfl rfl ?_
                refine RD.take 2 rfl (by kernel_rfl) (by kernel_rfl) (by kernel_rfl) (fun w' s' => .move rfl) rfl rfl ?_
                refine RD.take 3 rfl (by kernel_rfl) (by kernel_rfl) (by kernel_rfl) (fun w' s' => .loadR ([.int .i64 o.a, .int .i64 o.b]) sh82 rfl (hb_9.step s' (fun e => e.elim (fun e => n_5__9.symm e) (fun e => Nat.not_le.2 ltD_b_9 e))).row rfl) rfl rfl ?_
                refine RD.take 6 rfl (by kernel_rfl) (by kernel_rfl) (by kernel_rfl) (fun w' s' => .buildS ze43 pl43 rfl rfl) rfl rfl ?_
                refine RD.all [1, 4] (by kernel_rfl) rfl (RDs.cons rfl ?_ (RDs.cons rfl ?_ (RDs.nil)))
                ·
                  refine RL.call rfl ok77 (c_clone l a c _ rfl w59 (hl.sub S) (by omega)) rfl rfl ?_
                  rintro _ w61 ⟨a84, c84, rfl, o84, s62⟩
                  have lt3 := hb_3.lt
                  have lt5 := hb_5.lt
                  have lt9 := hb_9.lt
                  have szS := S.size
                  have szD84 := szD
                  have szB84 := s62.size
                  have S := S.trans s62
                  have hb_3 := hb_3.sub s62
                  have hb_5 := hb_5.sub s62
                  have hb_9 := hb_9.sub s62
                  have szD := Nat.le_trans szD s62.size
                  have d84_3 : ∀ k, ob (.slice a84 l.length c84) = some k → k ≠ b_3 := (fun k hk e => by have := (o84.ge k hk).1; omega)
                  have d84_5 : ∀ k, ob (.slice a84 l.length c84) = some k → k ≠ b_5 := (fun k hk e => by have := (o84.ge k hk).1; omega)
                  have d84_9 : ∀ k, ob (.slice a84 l.length c84) = some k → k ≠ b_9 := (fun k hk e => by have := (o84.ge k hk).1; omega)
                  have o84w := o84.whole
                  refine RD.back s62.agr ?_
                  refine RD.all [4] (by kernel_rfl) rfl (RDs.cons rfl ?_ (RDs.nil))
                  refine RL.buildSlice1 sl35 _ ze82 rfl rfl rfl rfl rfl rfl rfl (fun b_87 w_87 e_87 z_87 hb_87 s_87 => ?_)
                  have fr_b_87 : w53.heap.size ≤ b_87 := by rw [e_87]; exact szD
                  have ge_87 := S.le e_87
                  have n_3__87 := hb_3.ne e_87
                  have n_5__87 := hb_5.ne e_87
                  have n_9__87 := hb_9.ne e_87
                  have d_o84_b_87 := o84.neNew e_87
                  have S := S.trans s_87
                  have hb_3 := hb_3.sub s_87
                  have hb_5 := hb_5.sub s_87
                  have hb_9 := hb_9.sub s_87
                  have szD := Nat.le_trans szD s_87.size
                  have szB84 := Nat.le_trans szB84 s_87.size
                  have o84 := o84.sub s_87
                  refine RD.back s_87.agr ?_
                  refine RD.all [5] (by kernel_rfl) rfl (RDs.cons rfl ?_ (RDs.nil))
                  refine RL.call rfl ok79 (c_insert l ⟨o.a, o.b⟩ _ a84 c84 b_87 n' w_87 o84 szB84 (by rcases o84w with ⟨q, _⟩ | ⟨g, ex, q, _, _, _, q2⟩; injection q with _ _ q; omega; injection q with _ _ q; rw [q]; exact Nat.le_trans q2 (by decide)) (by omega) g3 hb_87 (by first | exact d_o84_b_87 | exact (fun k hk e => by have := (o84.ge k hk).1; omega))) rfl rfl ?_
                  rintro _ w63 ⟨a88', c88', M88, rfl, hc88, hF88, hM88, a88⟩
                  have S := S.agrN a88 (fun k e => Nat.le_trans szS (o84.ge k e).1)
                  have hb_3 := hb_3.step a88 (fun e => d84_3 _ e rfl)
                  have hb_5 := hb_5.step a88 (fun e => d84_5 _ e rfl)
                  have hb_9 := hb_9.step a88 (fun e => d84_9 _ e rfl)
                  have szD := Nat.le_trans szD a88.size
                  have d88_5 : ∀ k, M88 k → k ≠ b_5 := (fun k hk e => by have := hM88 k hk; omega)
                  have d88_3 : ∀ k, M88 k → k ≠ b_3 := (fun k hk e => by have := hM88 k hk; omega)
                  have d88_9 : ∀ k, M88 k → k ≠ b_9 := (fun k hk e => by have := hM88 k hk; omega)
                  refine RD.backW rfl (a88.mono fun k _ e => .inr (Nat.le_trans szD84 (o84.ge k e).1)) ?_
                  refine RD.take 7 rfl (by kernel_rfl) (by kernel_rfl) (by kernel_rfl) (fun w' s' => .assign rfl) rfl rfl ?_
                  refine RD.all [8] (by kernel_rfl) rfl (RDs.cons rfl ?_ (RDs.nil))
                  refine RL.store sh43 rfl rfl rfl hb_5 (by exact Nat.le_of_ble_eq_true rfl) (by rfl) rfl (fun w65 z65 hb_5 a65 => ?_)
                  have S := S.upd a65 ge_5
                  have hb_3 := hb_3.upd a65 n_3__5
                  have hb_9 := hb_9.upd a65 n_5__9.symm
                  have szD := Nat.le_trans szD a65.size
                  have hF88 := hF88.updD a65 d88_5
                  have hb_5 : Has w65 b_5 ([.int .i64 0, .int .i64 0, .int .i64 0]) _ := hb_5.now (by kernel_rfl)
                  refine RD.backW rfl (a65.mono fun k _ e => e ▸ (.inl (rfl))) ?_
                  refine RD.done (by kernel_rfl) (RC.back ?_)
                  refine RC.done (rs := [.tmp 4, .cell 5 43]) (vs := [_, _]) rfl rfl ⟨rfl, ⟨_, rfl, .inr ⟨[.int .i64 0, .int .i64 0, .int .i64 0], sh43, hb_5.row, rfl⟩⟩, trivial⟩ ?_
                  -- end 10
                  have he : pairsM l o = (l.take n' ++ ⟨o.a, o.b⟩ :: l.drop n', ⟨0, 0, 0⟩) := (by rw [hdef, if_neg (by omega), if_pos k44, if_neg (fun h => by omega), put_no hs hn (by rw [← his]; exact is0), is0]; rfl)
                  rw [he]
                  exact ⟨S, _, _, M88, by rw [show (l.take n' ++ (⟨o.a, o.b⟩ : It) :: l.drop n').length = l.length + 1 from by rw [List.length_append, List.length_cons, List.length_take, List.length_drop]; omega]; rfl, by rw [show (l.take n' ++ (⟨o.a, o.b⟩ : It) :: l.drop n').length = l.length + 1 from by rw [List.length_append, List.length_cons, List.length_take, List.length_drop]; omega]; exact hc88, hF88, fun k hk => .inr (Nat.le_trans szS (hM88 k hk))⟩
                ·
                  refine RL.buildSlice1 sl35 _ ze82 rfl rfl rfl rfl rfl rfl rfl (fun b_87 w_87 e_87 z_87 hb_87 s_87 => ?_)
                  have fr_b_87 : w53.heap.size ≤ b_87 := by rw [e_87]; exact szD
                  have ge_87 := S.le e_87
                  have n_3__87 := hb_3.ne e_87
                  have n_5__87 := hb_5.ne e_87
                  have n_9__87 := hb_9.ne e_87
                  have S := S.trans s_87
                  have hb_3 := hb_3.sub s_87
                  have hb_5 := hb_5.sub s_87
                  have hb_9 := hb_9.sub s_87
                  have szD := Nat.le_trans szD s_87.size
                  refine RD.back s_87.agr ?_
                  refine RD.all [1] (by kernel_rfl) rfl (RDs.cons rfl ?_ (RDs.nil))
                  refine RL.call rfl ok77 (c_clone l a c _ rfl w_87 (hl.sub S) (by omega)) rfl rfl ?_
                  rintro _ w66 ⟨a84, c84, rfl, o84, s67⟩
                  have lt3 := hb_3.lt
                  have lt5 := hb_5.lt
                  have lt9 := hb_9.lt
                  have szS := S.size
                  have szD84 := szD
                  have szB84 := s67.size
                  have S := S.trans s67
                  have hb_3 := hb_3.sub s67
                  have hb_5 := hb_5.sub s67
                  have hb_9 := hb_9.sub s67
                  have szD := Nat.le_trans szD s67.size
                  have hb_87 := hb_87.sub s67
                  have d84_3 : ∀ k, ob (.slice a84 l.length c84) = some k → k ≠ b_3 := (fun k hk e => by have := (o84.ge k hk).1; omega)
                  have d84_5 : ∀ k, ob (.slice a84 l.length c84) = some k → k ≠ b_5 := (fun k hk e => by have := (o84.ge k hk).1; omega)
                  have d84_9 : ∀ k, ob (.slice a84 l.length c84) = some k → k ≠ b_9 := (fun k hk e => by have := (o84.ge k hk).1; omega)
                  have o84w := o84.whole
                  refine RD.back s67.agr ?_
                  refine RD.all [5] (by kernel_rfl) rfl (RDs.cons rfl ?_ (RDs.nil))
                  refine RL.call rfl ok79 (c_insert l ⟨o.a, o.b⟩ _ a84 c84 b_87 n' w66 o84 szB84 (by rcases o84w with ⟨q, _⟩ | ⟨g, ex, q, _, _, _, q2⟩; injection q with _ _ q; omega; injection q with _ _ q; rw [q]; exact Nat.le_trans q2 (by decide)) (by omega) g3 hb_87 (by first | exact d_o84_b_87 | exact (fun k hk e => by have := (o84.ge k hk).1; omega))) rfl rfl ?_
                  rintro _ w68 ⟨a88', c88', M88, rfl, hc88, hF88, hM88, a88⟩
                  have S := S.agrN a88 (fun k e => Nat.le_trans szS (o84.ge k e).1)
                  have hb_3 := hb_3.step a88 (fun e => d84_3 _ e rfl)
                  have hb_5 := hb_5.step a88 (fun e => d84_5 _ e rfl)
                  have hb_9 := hb_9.step a88 (fun e => d84_9 _ e rfl)
                  have szD := Nat.le_trans szD a88.size
                  have d88_5 : ∀ k, M88 k → k ≠ b_5 := (fun k hk e => by have := hM88 k hk; omega)
                  have d88_3 : ∀ k, M88 k → k ≠ b_3 := (fun k hk e => by have := hM88 k hk; omega)
                  have d88_9 : ∀ k, M88 k → k ≠ b_9 := (fun k hk e => by have := hM88 k hk; omega)
                  refine RD.backW rfl (a88.mono fun k _ e => .inr (Nat.le_trans szD84 (o84.ge k e).1)) ?_
                  refine RD.take 7 rfl (by kernel_rfl) (by kernel_rfl) (by kernel_rfl) (fun w' s' => .assign rfl) rfl rfl ?_
                  refine RD.all [8] (by kernel_rfl) rfl (RDs.cons rfl ?_ (RDs.nil))
                  refine RL.store sh43 rfl rfl rfl hb_5 (by exact Nat.le_of_ble_eq_true rfl) (by rfl) rfl (fun w70 z70 hb_5 a70 => ?_)
                  have S := S.upd a70 ge_5
                  have hb_3 := hb_3.upd a70 n_3__5
                  have hb_9 := hb_9.upd a70 n_5__9.symm
                  have szD := Nat.le_trans szD a70.size
                  have hF88 := hF88.updD a70 d88_5
                  have hb_5 : Has w70 b_5 ([.int .i64 0, .int .i64 0, .int .i64 0]) _ := hb_5.now (by kernel_rfl)
                  refine RD.backW rfl (a70.mono fun k _ e => e ▸ (.inl (rfl))) ?_
                  refine RD.done (by kernel_rfl) (RC.back ?_)
                  refine RC.done (rs := [.tmp 4, .cell 5 43]) (vs := [_, _]) rfl rfl ⟨rfl, ⟨_, rfl, .inr ⟨[.int .i64 0, .int .i64 0, .int .i64 0], sh43, hb_5.row, rfl⟩⟩, trivial⟩ ?_
                  -- end 11
                  have he : pairsM l o = (l.take n' ++ ⟨o.a, o.b⟩ :: l.drop n', ⟨0, 0, 0⟩) := (by rw [hdef, if_neg (by omega), if_pos k44, if_neg (fun h => by omega), put_no hs hn (by rw [← his]; exact is0), is0]; rfl)
                  rw [he]
                  exact ⟨S, _, _, M88, by rw [show (l.take n' ++ (⟨o.a, o.b⟩ : It) :: l.drop n').length = l.length + 1 from by rw [List.length_append, List.length_cons, List.length_take, List.length_drop]; omega]; rfl, by rw [show (l.take n' ++ (⟨o.a, o.b⟩ : It) :: l.drop n').length = l.length + 1 from by rw [List.length_append, List.length_cons, List.length_take, List.length_drop]; omega]; exact hc88, hF88, fun k hk => .inr (Nat.le_trans szS (hM88 k hk))⟩
            ·
              have g73 : ¬ o.box = 2 := h52
              refine RL.off rfl rfl ?_
              refine RL.off rfl rfl ?_
              refine RL.off rfl rfl ?_
              refine RL.off rfl rfl ?_
              refine RL.off rfl rfl ?_
              refine RL.ev (.pick_f rfl rfl) rfl rfl ?_
              refine RL.ev (.pick_f rfl rfl) rfl rfl ?_
              refine RL.nil (RC.back ?_)
              refine RC.cond_f rfl ?_
              refine RC.skip (RC.back ?_)
              refine RC.seq ?_
              refine RC.drawD (fun k => k = b_5) [5, 8] w39.heap.size 9 rfl rfl mxo (fun w71 s72 => ?_)
              have hNN : ∀ k, ((k = b_5) ∨ w39.heap.size ≤ k) → w.heap.size ≤ k := fun k e => e.elim (fun e => e ▸ ge_5) (fun e => Nat.le_trans S.size e)
              have ent_S := S.size
              have hN0 : ∀ k, w39.heap.size ≤ k → w.heap.size ≤ k := fun k e => Nat.le_trans S.size e
              have ltD_b_3 := hb_3.lt
              have ltD_b_5 := hb_5.lt
              have ltD_b_9 := hb_9.lt
              have szD := Nat.le_refl w39.heap.size
              have S := S.trans s72
              have hb_3 := hb_3.sub s72
              have hb_5 := hb_5.sub s72
              have hb_9 := hb_9.sub s72
              have szD := Nat.le_trans szD s72.size
              refine RD.take 0 rfl (by kernel_rfl) (by kernel_rfl) (by kernel_rfl) (fun w' s' => .move rfl) rfl rfl ?_
              refine RD.take 2 rfl (by kernel_rfl) (by kernel_rfl) (by kernel_rfl) (fun w' s' => .move rfl) rfl rfl ?_
              refine RD.take 3 rfl (by kernel_rfl) (by kernel_rfl) (by kernel_rfl) (fun w' s' => .loadR ([.int .i64 o.a, .int .i64 o.b]) sh82 rfl (hb_9.step s' (fun e => e.elim (fun e => n_5__9.symm e) (fun e => Nat.not_le.2 ltD_b_9 e))).row rfl) rfl rfl ?_
              refine RD.take 6 rfl (by kernel_rfl) (by kernel_rfl) (by kernel_rfl) (fun w' s' => .buildS ze43 pl43 rfl rfl) rfl rfl ?_
              refine RD.all [1, 4] (by kernel_rfl) rfl (RDs.cons rfl ?_ (RDs.cons rfl ?_ (RDs.nil)))
              ·
                refine RL.call rfl ok77 (c_clone l a c _ rfl w71 (hl.sub S) (by omega)) rfl rfl ?_
                rintro _ w73 ⟨a84, c84, rfl, o84, s74⟩
                have lt3 := hb_3.lt
                have lt5 := hb_5.lt
                have lt9 := hb_9.lt
                have szS := S.size
                have szD84 := szD
                have szB84 := s74.size
                have S := S.trans s74
                have hb_3 := hb_3.sub s74
                have hb_5 := hb_5.sub s74
                have hb_9 := hb_9.sub s74
                have szD := Nat.le_trans szD s74.size
                have d84_3 : ∀ k, ob (.slice a84 l.length c84) = some k → k ≠ b_3 := (fun k hk e => by have := (o84.ge k hk).1; omega)
                have d84_5 : ∀ k, ob (.slice a84 l.length c84) = some k → k ≠ b_5 := (fun k hk e => by have := (o84.ge k hk).1; omega)
                have d84_9 : ∀ k, ob (.slice a84 l.length c84) = some k → k ≠ b_9 := (fun k hk e => by have := (o84.ge k hk).1; omega)
                have o84w := o84.whole
                refine RD.back s74.agr ?_
                refine RD.all [4] (by kernel_rfl) rfl (RDs.cons rfl ?_ (RDs.nil))
                refine RL.buildSlice1 sl35 _ ze82 rfl rfl rfl rfl rfl rfl rfl (fun b_87 w_87 e_87 z_87 hb_87 s_87 => ?_)
                have fr_b_87 : w39.heap.size ≤ b_87 := by rw [e_87]; exact szD
                have ge_87 := S.le e_87
                have n_3__87 := hb_3.ne e_87
                have n_5__87 := hb_5.ne e_87
                have n_9__87 := hb_9.ne e_87
                have d_o84_b_87 := o84.neNew e_87
                have S := S.trans s_87
                have hb_3 := hb_3.sub s_87
                have hb_5 := hb_5.sub s_87
                have hb_9 := hb_9.sub s_87
                have szD := Nat.le_trans szD s_87.size
                have szB84 := Nat.le_trans szB84 s_87.size
                have o84 := o84.sub s_87
                refine RD.back s_87.agr ?_
                refine RD.all [5] (by kernel_rfl) rfl (RDs.cons rfl ?_ (RDs.nil))
                refine RL.call rfl ok79 (c_insert l ⟨o.a, o.b⟩ _ a84 c84 b_87 n' w_87 o84 szB84 (by rcases o84w with ⟨q, _⟩ | ⟨g, ex, q, _, _, _, q2⟩; injection q with _ _ q; omega; injection q with _ _ q; rw [q]; exact Nat.le_trans q2 (by decide)) (by omega) g3 hb_87 (by first | exact d_o84_b_87 | exact (fun k hk e => by have := (o84.ge k hk).1; omega))) rfl rfl ?_
                rintro _ w75 ⟨a88', c88', M88, rfl, hc88, hF88, hM88, a88⟩
                have S := S.agrN a88 (fun k e => Nat.le_trans szS (o84.ge k e).1)
                have hb_3 := hb_3.step a88 (fun e => d84_3 _ e rfl)
                have hb_5 := hb_5.step a88 (fun e => d84_5 _ e rfl)
                have hb_9 := hb_9.step a88 (fun e => d84_9 _ e rfl)
                have szD := Nat.le_trans szD a88.size
                have d88_5 : ∀ k, M88 k → k ≠ b_5 := (fun k hk e => by have := hM88 k hk; omega)
                have d88_3 : ∀ k, M88 k → k ≠ b_3 := (fun k hk e => by have := hM88 k hk; omega)
                have d88_9 : ∀ k, M88 k → k ≠ b_9 := (fun k hk e => by have := hM88 k hk; omega)
                refine RD.backW rfl (a88.mono fun k _ e => .inr (Nat.le_trans szD84 (o84.ge k e).1)) ?_
                refine RD.take 7 rfl (by kernel_rfl) (by kernel_rfl) (by kernel_rfl) (fun w' s' => .assign rfl) rfl rfl ?_
                refine RD.all [8] (by kernel_rfl) rfl (RDs.cons rfl ?_ (RDs.nil))
                refine RL.store sh43 rfl rfl rfl hb_5 (by exact Nat.le_of_ble_eq_true rfl) (by rfl) rfl (fun w77 z77 hb_5 a77 => ?_)
                have S := S.upd a77 ge_5
                have hb_3 := hb_3.upd a77 n_3__5
                have hb_9 := hb_9.upd a77 n_5__9.symm
                have szD := Nat.le_trans szD a77.size
                have hF88 := hF88.updD a77 d88_5
                have hb_5 : Has w77 b_5 ([.int .i64 0, .int .i64 0, .int .i64 0]) _ := hb_5.now (by kernel_rfl)
                refine RD.backW rfl (a77.mono fun k _ e => e ▸ (.inl (rfl))) ?_
                refine RD.done (by kernel_rfl) (RC.back ?_)
                refine RC.done (rs := [.tmp 4, .cell 5 43]) (vs := [_, _]) rfl rfl ⟨rfl, ⟨_, rfl, .inr ⟨[.int .i64 0, .int .i64 0, .int .i64 0], sh43, hb_5.row, rfl⟩⟩, trivial⟩ ?_
                -- end 12
                have he : pairsM l o = (l.take n' ++ ⟨o.a, o.b⟩ :: l.drop n', ⟨0, 0, 0⟩) := (by rw [hdef, if_neg (by omega), if_pos k44, if_neg (fun h => by omega), put_no hs hn (by rw [← his]; exact is0), is0]; rfl)
                rw [he]
                exact ⟨S, _, _, M88, by rw [show (l.take n' ++ (⟨o.a, o.b⟩ : It) :: l.drop n').length = l.length + 1 from by rw [List.length_append, List.length_cons, List.length_take, List.length_drop]; omega]; rfl, by rw [show (l.take n' ++ (⟨o.a, o.b⟩ : It) :: l.drop n').length = l.length + 1 from by rw [List.length_append, List.length_cons, List.length_take, List.length_drop]; omega]; exact hc88, hF88, fun k hk => .inr (Nat.le_trans szS (hM88 k hk))⟩
              ·
                refine RL.buildSlice1 sl35 _ ze82 rfl rfl rfl rfl rfl rfl rfl (fun b_87 w_87 e_87 z_87 hb_87 s_87 => ?_)
                have fr_b_87 : w39.heap.size ≤ b_87 := by rw [e_87]; exact szD
                have ge_87 := S.le e_87
                have n_3__87 := hb_3.ne e_87
                have n_5__87 := hb_5.ne e_87
                have n_9__87 := hb_9.ne e_87
                have S := S.trans s_87
                have hb_3 := hb_3.sub s_87
                have hb_5 := hb_5.sub s_87
                have hb_9 := hb_9.sub s_87
                have szD := Nat.le_trans szD s_87.size
                refine RD.back s_87.agr ?_
                refine RD.all [1] (by kernel_rfl) rfl (RDs.cons rfl ?_ (RDs.nil))
                refine RL.call rfl ok77 (c_clone l a c _ rfl w_87 (hl.sub S) (by omega)) rfl rfl ?_
                rintro _ w78 ⟨a84, c84, rfl, o84, s79⟩
                have lt3 := hb_3.lt
                have lt5 := hb_5.lt
                have lt9 := hb_9.lt
                have szS := S.size
                have szD84 := szD
                have szB84 := s79.size
                have S := S.trans s79
                have hb_3 := hb_3.sub s79
                have hb_5 := hb_5.sub s79
                have hb_9 := hb_9.sub s79
                have szD := Nat.le_trans szD s79.size
                have hb_87 := hb_87.sub s79
                have d84_3 : ∀ k, ob (.slice a84 l.length c84) = some k → k ≠ b_3 := (fun k hk e => by have := (o84.ge k hk).1; omega)
                have d84_5 : ∀ k, ob (.slice a84 l.length c84) = some k → k ≠ b_5 := (fun k hk e => by have := (o84.ge k hk).1; omega)
                have d84_9 : ∀ k, ob (.slice a84 l.length c84) = some k → k ≠ b_9 := (fun k hk e => by have := (o84.ge k hk).1; omega)
                have o84w := o84.whole
                refine RD.back s79.agr ?_
                refine RD.all [5] (by kernel_rfl) rfl (RDs.cons rfl ?_ (RDs.nil))
                refine RL.call rfl ok79 (c_insert l ⟨o.a, o.b⟩ _ a84 c84 b_87 n' w78 o84 szB84 (by rcases o84w with ⟨q, _⟩ | ⟨g, ex, q, _, _, _, q2⟩; injection q with _ _ q; omega; injection q with _ _ q; rw [q]; exact Nat.le_trans q2 (by decide)) (by omega) g3 hb_87 (by first | exact d_o84_b_87 | exact (fun k hk e => by have := (o84.ge k hk).1; omega))) rfl rfl ?_
                rintro _ w80 ⟨a88', c88', M88, rfl, hc88, hF88, hM88, a88⟩
                have S := S.agrN a88 (fun k e => Nat.le_trans szS (o84.ge k e).1)
                have hb_3 := hb_3.step a88 (fun e => d84_3 _ e rfl)
                have hb_5 := hb_5.step a88 (fun e => d84_5 _ e rfl)
                have hb_9 := hb_9.step a88 (fun e => d84_9 _ e rfl)
                have szD := Nat.le_trans szD a88.size
                have d88_5 : ∀ k, M88 k → k ≠ b_5 := (fun k hk e => by have := hM88 k hk; omega)
                have d88_3 : ∀ k, M88 k → k ≠ b_3 := (fun k hk e => by have := hM88 k hk; omega)
                have d88_9 : ∀ k, M88 k → k ≠ b_9 := (fun k hk e => by have := hM88 k hk; omega)
                refine RD.backW rfl (a88.mono fun k _ e => .inr (Nat.le_trans szD84 (o84.ge k e).1)) ?_
                refine RD.take 7 rfl (by kernel_rfl) (by kernel_rfl) (by kernel_rfl) (fun w' s' => .assign rfl) rfl rfl ?_
                refine RD.all [8] (by kernel_rfl) rfl (RDs.cons rfl ?_ (RDs.nil))
                refine RL.store sh43 rfl rfl rfl hb_5 (by exact Nat.le_of_ble_eq_true rfl) (by rfl) rfl (fun w82 z82 hb_5 a82 => ?_)
                have S := S.upd a82 ge_5
                have hb_3 := hb_3.upd a82 n_3__5
                have hb_9 := hb_9.upd a82 n_5__9.symm
                have szD := Nat.le_trans szD a82.size
                have hF88 := hF88.updD a82 d88_5
                have hb_5 : Has w82 b_5 ([.int .i64 0, .int .i64 0, .int .i64 0]) _ := hb_5.now (by kernel_rfl)
                refine RD.backW rfl (a82.mono fun k _ e => e ▸ (.inl (rfl))) ?_
                refine RD.done (by kernel_rfl) (RC.back ?_)
                refine RC.done (rs := [.tmp 4, .cell 5 43]) (vs := [_, _]) rfl rfl ⟨rfl, ⟨_, rfl, .inr ⟨[.int .i64 0, .int .i64 0, .int .i64 0], sh43, hb_5.row, rfl⟩⟩, trivial⟩ ?_
                -- end 13
                have he : pairsM l o = (l.take n' ++ ⟨o.a, o.b⟩ :: l.drop n', ⟨0, 0, 0⟩) := (by rw [hdef, if_neg (by omega), if_pos k44, if_neg (fun h => by omega), put_no hs hn (by rw [← his]; exact is0), is0]; rfl)
                rw [he]
                exact ⟨S, _, _, M88, by rw [show (l.take n' ++ (⟨o.a, o.b⟩ : It) :: l.drop n').length = l.length + 1 from by rw [List.length_append, List.length_cons, List.length_take, List.length_drop]; omega]; rfl, by rw [show (l.take n' ++ (⟨o.a, o.b⟩ : It) :: l.drop n').length = l.length + 1 from by rw [List.length_append, List.length_cons, List.length_take, List.length_drop]; omega]; exact hc88, hF88, fun k hk => .inr (Nat.le_trans szS (hM88 k hk))⟩
      ·
        have n44 := h38
        refine RC.seq ?_
        refine RC.region rfl ?_
        refine RL.ev (.bin rfl rfl rfl) rfl rfl ?_
        refine RL.ev (.assign rfl) rfl rfl ?_
        refine RL.nil (RC.back ?_)
        refine RC.cond_dec rfl (fun h83 => ?_) (fun h83 => ?_)
        ·
          have k90 := h83
          refine RC.cutx (α := Nat) (fun y_ => [(0, .slice a l.length c), (3, .pointer (some ⟨b_3, 0, none⟩)), (5, .pointer (some ⟨b_5, 0, none⟩)), (6, .int .i64 (y_ : Int))]) (fun y_ w84 => (y_ = (if is then n' + 1 else n') ∧ y_ ≤ l.length) ∧ Has w84 b_5 [.int .i64 0, .int .i64 0, .int .i64 0] 43 ∧ Sub w w84) ?_ (fun y_ w84 hJ => ?_)
          ·
            refine RC.seq ?_
            refine RC.region rfl ?_
            refine RL.ev (.move rfl) rfl rfl ?_
            refine RL.nil (RC.back ?_)
            refine RC.cond rfl (fun h85 => ?_) (fun h85 => ?_)
            ·
              have is1 : is = true := h85
              obtain ⟨x, hx, hxk⟩ := g0.1 is1
              have hnl := lt_of_get hx
              refine RC.region rfl ?_
              refine RL.ev (.move rfl) rfl rfl ?_
              refine RL.ev (.as (.bin rfl rfl rfl) (wi64 (y := ((n' + 1 : Nat) : Int)) (by omega) (by omega))) rfl rfl ?_
              refine RL.ev (.assign rfl) rfl rfl ?_
              exact RL.nil (fun a ka => ⟨n' + 1, ⟨⟨by rw [is1]; rfl, by omega⟩, hb_5, S⟩, ka.keep (keep_of (by repeat (first | exact trivial | refine And.intro rfl ?_)))⟩)
            ·
              have is0 : is = false := h85
              exact RC.skip (fun a ka => ⟨n', ⟨⟨by rw [is0]; rfl, g3⟩, hb_5, S⟩, ka.keep (keep_of (by repeat (first | exact trivial | refine And.intro rfl ?_)))⟩)
          obtain ⟨⟨hyk, hyl⟩, hb_5, S⟩ := hJ
          refine RC.seq ?_
          refine RC.seq ?_
          refine RC.region rfl ?_
          refine RL.ev (.move rfl) rfl rfl ?_
          refine RL.ev (.bin rfl rfl rfl) rfl rfl ?_
          refine RL.nil (RC.back ?_)
          refine RC.cond_dec rfl (fun h86 => ?_) (fun h86 => ?_)
          ·
            have g96 : y_ = 0 := (by omega)
            refine RC.seq ?_
            refine RC.region rfl ?_
            refine RL.ev (.move rfl) rfl rfl ?_
            refine RL.call rfl ok75 (c_none w84) rfl rfl ?_
            rintro _ w87 ⟨rfl, s88⟩
            have S := S.trans s88
            have hb_5 := hb_5.sub s88
            refine RL.ev (.assign rfl) rfl rfl ?_
            refine RL.store sh43 rfl rfl rfl hb_5 (by exact Nat.le_of_ble_eq_true rfl) (by rfl) rfl (fun w89 z89 hb_5 a89 => ?_)
            have S := S.upd a89 ge_5
            have hb_5 : Has w89 b_5 ([.int .i64 3, .int .i64 0, .int .i64 0]) _ := hb_5.now (by kernel_rfl)
            refine RL.nil (RC.back ?_)
            refine RC.done (rs := [.tmp 4, .cell 5 43]) (vs := [_, _]) rfl rfl ⟨rfl, ⟨_, rfl, .inr ⟨[.int .i64 3, .int .i64 0, .int .i64 0], sh43, hb_5.row, rfl⟩⟩, trivial⟩ ?_
            -- end 14
            have he : pairsM l o = (l, ⟨3, 0, 0⟩) := (by rw [hdef, if_neg (by omega), if_neg (by omega), if_pos k90, if_pos (by rw [← hyk]; exact g96)])
            rw [he]
            exact ⟨S, _, _, M, rfl, hc, hF.sub S, Up.refl _ _⟩
          ·
            have g96 : 0 < y_ := (by omega)
            obtain ⟨y, hy⟩ := getSome (l := l) (i := y_ - 1) (by omega)
            have hva := valAt_get hy
            refine RC.skip (RC.back ?_)
            refine RC.seq ?_
            refine RC.drawD (fun k => k = b_5) [15] w84.heap.size 16 rfl rfl mxo (fun w90 s91 => ?_)
            have hNN : ∀ k, ((k = b_5) ∨ w84.heap.size ≤ k) → w.heap.size ≤ k := fun k e => e.elim (fun e => e ▸ ge_5) (fun e => Nat.le_trans S.size e)
            have ent_S := S.size
            have hN0 : ∀ k, w84.heap.size ≤ k → w.heap.size ≤ k := fun k e => Nat.le_trans S.size e
            have ltD_b_5 := hb_5.lt
            have szD := Nat.le_refl w84.heap.size
            have S := S.trans s91
            have hb_5 := hb_5.sub s91
            have szD := Nat.le_trans szD s91.size
            refine RD.take 0 rfl (by kernel_rfl) (by kernel_rfl) (by kernel_rfl) (fun w' s' => .move rfl) rfl rfl ?_
            refine RD.take 1 rfl (by kernel_rfl) (by kernel_rfl) (by kernel_rfl) (fun w' s' => .move rfl) rfl rfl ?_
            refine RD.take 2 rfl (by kernel_rfl) (by kernel_rfl) (by kernel_rfl) (fun w' s' => .move rfl) rfl rfl ?_
            refine RD.take 3 rfl (by kernel_rfl) (by kernel_rfl) (by kernel_rfl) (fun w' s' => .as (.bin rfl rfl rfl) (wi64 (y := ((y_ - 1 : Nat) : Int)) (by omega) (by omega))) rfl rfl ?_
            refine RD.take 4 rfl (by kernel_rfl) (by kernel_rfl) (by kernel_rfl) (fun w' s' => .indexS sl35 rfl rfl (by omega) (hl.is (i := 0) (by simp only [List.length_map, List.length_cons, List.length_nil]; omega))) rfl rfl ?_
            refine RD.take 5 rfl (by kernel_rfl) (by kernel_rfl) (by kernel_rfl) (fun w' s' => .fieldA fo82_0 rfl) rfl rfl ?_
            refine RD.take 6 rfl (by kernel_rfl) (by kernel_rfl) (by kernel_rfl) (fun w' s' => .load1 sh2 rfl ((hl.sub (S.agrN s' hNN)).cell (enc := It.cells) (j := 0) hy rfl)) rfl rfl ?_
            refine RD.take 7 rfl (by kernel_rfl) (by kernel_rfl) (by kernel_rfl) (fun w' s' => .move rfl) rfl rfl ?_
            refine RD.take 8 rfl (by kernel_rfl) (by kernel_rfl) (by kernel_rfl) (fun w' s' => .move rfl) rfl rfl ?_
            refine RD.take 9 rfl (by kernel_rfl) (by kernel_rfl) (by kernel_rfl) (fun w' s' => .as (.bin rfl rfl rfl) (wi64 (y := ((y_ - 1 : Nat) : Int)) (by omega) (by omega))) rfl rfl ?_
            refine RD.take 10 rfl (by kernel_rfl) (by kernel_rfl) (by kernel_rfl) (fun w' s' => .indexS sl35 rfl rfl (by omega) (hl.is (i := 0) (by simp only [List.length_map, List.length_cons, List.length_nil]; omega))) rfl rfl ?_
            refine RD.take 11 rfl (by kernel_rfl) (by kernel_rfl) (by kernel_rfl) (fun w' s' => .fieldA fo82_1 rfl) rfl rfl ?_
            refine RD.take 12 rfl (by kernel_rfl) (by kernel_rfl) (by kernel_rfl) (fun w' s' => .load1 sh2 rfl ((hl.sub (S.agrN s' hNN)).cell (enc := It.cells) (j := 1) hy rfl)) rfl rfl ?_
            refine RD.take 13 rfl (by kernel_rfl) (by kernel_rfl) (by kernel_rfl) (fun w' s' => .buildS ze43 pl43 rfl rfl) rfl rfl ?_
            refine RD.take 14 rfl (by kernel_rfl) (by kernel_rfl) (by kernel_rfl) (fun w' s' => .assign rfl) rfl rfl ?_
            refine RD.all [15] (by kernel_rfl) rfl (RDs.cons rfl ?_ (RDs.nil))
            refine RL.store sh43 rfl rfl rfl hb_5 (by exact Nat.le_of_ble_eq_true rfl) (by rfl) rfl (fun w92 z92 hb_5 a92 => ?_)
            have S := S.upd a92 ge_5
            have szD := Nat.le_trans szD a92.size
            have hb_5 : Has w92 b_5 ([.int .i64 0, .int .i64 y.k, .int .i64 y.v]) _ := hb_5.now (by kernel_rfl)
            refine RD.backW rfl (a92.mono fun k _ e => e ▸ (.inl (rfl))) ?_
            refine RD.done (by kernel_rfl) (RC.back ?_)
            refine RC.done (rs := [.tmp 4, .cell 5 43]) (vs := [_, _]) rfl rfl ⟨rfl, ⟨_, rfl, .inr ⟨[.int .i64 0, .int .i64 y.k, .int .i64 y.v], sh43, hb_5.row, rfl⟩⟩, trivial⟩ ?_
            -- end 15
            have he : pairsM l o = (l, ⟨0, y.k, y.v⟩) := (by rw [hdef, if_neg (by omega), if_neg (by omega), if_pos k90, if_neg (by rw [← hyk]; omega), ← hyk, hva])
            rw [he]
            exact ⟨S, _, _, M, rfl, hc, hF.sub S, Up.refl _ _⟩
        ·
          have n90 := h83
          refine RC.seq ?_
          refine RC.region rfl ?_
          refine RL.ev (.bin rfl rfl rfl) rfl rfl ?_
          refine RL.ev (.assign rfl) rfl rfl ?_
          refine RL.nil (RC.back ?_)
          refine RC.cond_dec rfl (fun h93 => ?_) (fun h93 => ?_)
          ·
            have k113 := h93
            refine RC.seq ?_
            refine RC.region rfl ?_
            refine RL.ev (.move rfl) rfl rfl ?_
            refine RL.ev (.move rfl) rfl rfl ?_
            refine RL.ev (.len sl35 rfl) rfl rfl ?_
            refine RL.ev (.buildS ze43 pl43 rfl rfl) rfl rfl ?_
            refine RL.ev (.assign rfl) rfl rfl ?_
            refine RL.store sh43 rfl rfl rfl hb_5 (by exact Nat.le_of_ble_eq_true rfl) (by rfl) rfl (fun w94 z94 hb_5 a94 => ?_)
            have S := S.upd a94 ge_5
            have hb_3 := hb_3.upd a94 n_3__5
            have hb_5 : Has w94 b_5 ([.int .i64 0, .int .i64 (l.length : Int), .int .i64 0]) _ := hb_5.now (by kernel_rfl)
            refine RL.nil (RC.back ?_)
            refine RC.done (rs := [.tmp 4, .cell 5 43]) (vs := [_, _]) rfl rfl ⟨rfl, ⟨_, rfl, .inr ⟨[.int .i64 0, .int .i64 (l.length : Int), .int .i64 0], sh43, hb_5.row, rfl⟩⟩, trivial⟩ ?_
            -- end 16
            have he : pairsM l o = (l, ⟨0, (l.length : Int), 0⟩) := (by rw [hdef, if_pos k113])
            rw [he]
            exact ⟨S, _, _, M, rfl, hc, hF.sub S, Up.refl _ _⟩
          ·
            have n113 := h93
            refine RC.skip (RC.back ?_)
            refine RC.seq ?_
            refine RC.region rfl ?_
            refine RL.ev (.move rfl) rfl rfl ?_
            refine RL.ev (.move rfl) rfl rfl ?_
            refine RL.ev (.buildS ze43 pl43 rfl rfl) rfl rfl ?_
            refine RL.ev (.assign rfl) rfl rfl ?_
            refine RL.store sh43 rfl rfl rfl hb_5 (by exact Nat.le_of_ble_eq_true rfl) (by rfl) rfl (fun w95 z95 hb_5 a95 => ?_)
            have S := S.upd a95 ge_5
            have hb_3 := hb_3.upd a95 n_3__5
            have hb_5 : Has w95 b_5 ([.int .i64 0, .int .i64 (n' : Int), .int .i64 0]) _ := hb_5.now (by kernel_rfl)
            refine RL.nil (RC.back ?_)
            refine RC.done (rs := [.tmp 4, .cell 5 43]) (vs := [_, _]) rfl rfl ⟨rfl, ⟨_, rfl, .inr ⟨[.int .i64 0, .int .i64 (n' : Int), .int .i64 0], sh43, hb_5.row, rfl⟩⟩, trivial⟩ ?_
            -- end 17
            have he : pairsM l o = (l, ⟨0, (n' : Int), 0⟩) := (by rw [hdef, if_neg n113, if_neg n44, if_neg n90, if_pos (by omega)])
            rw [he]
            exact ⟨S, _, _, M, rfl, hc, hF.sub S, Up.refl _ _⟩
end Go.Proofs.Ytlhnnleaiinjaaa
set_option linter.unusedVariables false
set_option linter.unusedSimpArgs false
namespace Go.Proofs.Ytlhnnleaiinjaaa
open Go Go.XL
def rowM (l : List Int) (o : OpT) : List Int × ResT :=
  if o.kind = 6 then (l, ⟨0, l.length, 0⟩)
  else if o.kind = 2 ∨ o.kind = 4 then
    if 200 ≤ l.length then (l, ⟨5, 0, 0⟩) else (if o.kind = 2 then l ++ [o.a] else o.a :: l, ⟨0, 0, 0⟩)
  else if o.kind = 1 then
    if o.a < 0 ∨ (l.length : Int) ≤ o.a then (l, ⟨3, 0, 0⟩) else (l, ⟨0, l.getD o.a.toNat 0, 0⟩)
  else if l.length = 0 then (l, ⟨3, 0, 0⟩)
  else if o.kind = 3 then (l.take (l.length - 1), ⟨0, l.getD (l.length - 1) 0, 0⟩)
  else (l.drop 1, ⟨0, l.getD 0 0, 0⟩)
theorem getD_of {l : List Int} {n : Nat} {x : Int} (h : l[n]? = some x) : l.getD n 0 = x := by rw [List.getD_eq_getElem?_getD, h]; rfl
def AnsV (M : Nat → Prop) (w w' : World) (q : List Int × ResT) (u : Value) : Prop := Sub w w' ∧ ∃ a' c' M', u = .tuple #[.slice a' q.1.length c', .agg q.2.cells.toArray] ∧ q.1.length ≤ c' ∧ Ft M' (fun u => Sl u a' 1 (q.1.map fun x => [i6 x])) w' ∧ Up M w M'
theorem c_clip (a : Option Addr) (n c : Nat) (hn : n ≤ c) (w : World) : FC Try.prog 80 [.slice a n c] w (Val (.slice a n n) w) := by
  refine FC.intro Try.func80 rfl Try.ntmps80 rfl ?_
  have S := Sub.refl w
  refine RC.seq ?_
  refine RC.region rfl ?_
  refine RL.ev (.assign rfl) rfl rfl ?_
  refine RL.nil (RC.back ?_)
  refine RC.seq ?_
  refine RC.region rfl ?_
  refine RL.ev (.move rfl) rfl rfl ?_
  refine RL.ev (.move rfl) rfl rfl ?_
  refine RL.ev (.len sl36 rfl) rfl rfl ?_
  refine RL.ev (.move rfl) rfl rfl ?_
  refine RL.ev (.len sl36 rfl) rfl rfl ?_
  refine RL.ev (.sliceHM sl36 rfl rfl rfl (by omega)) rfl rfl ?_
  refine RL.ev (.assign rfl) rfl rfl ?_
  refine RL.nil (RC.back ?_)
  refine RC.done (rs := [.tmp 2]) (vs := [_]) rfl rfl ⟨rfl, trivial⟩ ?_
  -- end 1
  exact ⟨rfl, S⟩
theorem c_row (l : List Int) (a : Option Addr) (c m : Nat) (hm : m = l.length) (hl200 : l.length ≤ 200) (hc : l.length ≤ c) (o : OpT) (hok : okP o) (w : World) (M : Nat → Prop) (hF : Ft M (fun u => Sl u a 1 (l.map fun x => [i6 x])) w) :
    FC Try.prog 67 [.slice a m c, .agg o.cells.toArray] w (fun u w' => AnsV M w w' (rowM l o) u) := by
  subst hm
  have hl := hF.now
  have hk := hok.1
  have hkk : 1 ≤ o.kind ∧ o.kind ≤ 6 := ⟨hk.2.2.1, hk.2.2.2.1⟩
  refine FC.intro Try.func67 rfl Try.ntmps67 rfl ?_
  have S := Sub.refl w
  refine RC.seq ?_
  refine RC.region rfl ?_
  refine RL.box rfl rfl rfl (fun b_3 w_3 e_3 z_3 hb_3 s_3 => ?_)
  have ge_3 := S.le e_3
  have S := S.trans s_3
  have hb_3 : Has w_3 b_3 ([.int .i64 o.box, .int .i64 o.kind, .int .i64 o.a, .int .i64 o.b]) _ := hb_3
  refine RL.ev (.assign rfl) rfl rfl ?_
  refine RL.alloc ze43 rfl rfl (fun b_5 w_5 e_5 z_5 hb_5 s_5 => ?_)
  have ge_5 := S.le e_5
  have n_3__5 := hb_3.ne e_5
  have S := S.trans s_5
  have hb_3 := hb_3.sub s_5
  refine RL.nil (RC.back ?_)
  refine RC.seq ?_
  refine RC.region rfl ?_
  refine RL.ev (.move rfl) rfl rfl ?_
  refine RL.ev (.len sl36 rfl) rfl rfl ?_
  refine RL.ev (.assign rfl) rfl rfl ?_
  refine RL.nil (RC.back ?_)
  refine RC.seq ?_
  refine RC.seq ?_
  refine RC.region rfl ?_
  refine RL.ev (.field0 fo40_1 rfl) rfl rfl ?_
  refine RL.ev (.load1 sh3 rfl (hb_3.cell rfl)) rfl rfl ?_
  refine RL.nil (RC.back ?_)
  refine RC.block ?_
  refine RC.seq ?_
  refine RC.region rfl ?_
  refine RL.ev (.bin rfl rfl rfl) rfl rfl ?_
  refine RL.ev (.assign rfl) rfl rfl ?_
  refine RL.nil (RC.back ?_)
  refine RC.cond_dec rfl (fun h1 => ?_) (fun h1 => ?_)
  ·
    have k11 := h1
    refine RC.seq ?_
    refine RC.region rfl ?_
    refine RL.ev (.move rfl) rfl rfl ?_
    refine RL.ev (.move rfl) rfl rfl ?_
    refine RL.ev (.buildS ze43 pl43 rfl rfl) rfl rfl ?_
    refine RL.ev (.assign rfl) rfl rfl ?_
    refine RL.store sh43 rfl rfl rfl hb_5 (by exact Nat.le_of_ble_eq_true rfl) (by rfl) rfl (fun w2 z2 hb_5 a2 => ?_)
    have S := S.upd a2 ge_5
    have hb_3 := hb_3.upd a2 n_3__5
    have hb_5 : Has w2 b_5 ([.int .i64 0, .int .i64 (l.length : Int), .int .i64 0]) _ := hb_5.now (by kernel_rfl)
    refine RL.nil (RC.back ?_)
    refine RC.done (rs := [.tmp 4, .cell 5 43]) (vs := [_, _]) rfl rfl ⟨rfl, ⟨_, rfl, .inr ⟨[.int .i64 0, .int .i64 (l.length : Int), .int .i64 0], sh43, hb_5.row, rfl⟩⟩, trivial⟩ ?_
    -- end 1
    have he : rowM l o = (l, ⟨0, l.length, 0⟩) := (by rw [rowM, if_pos k11])
    rw [he]
    exact ⟨S, _, _, M, rfl, hc, hF.sub S, Up.refl _ _⟩
  ·
    have n11 := h1
    refine RC.seq ?_
    refine RC.seq ?_
    refine RC.region rfl ?_
    refine RL.ev (.bin rfl rfl rfl) rfl rfl ?_
    refine RL.ev (.assign rfl) rfl rfl ?_
    refine RL.nil (RC.back ?_)
    refine RC.cond_dec rfl (fun h3 => ?_) (fun h3 => ?_)
    ·
      have k16 := h3
      refine RC.skip (RC.back ?_)
      refine RC.cond_dec rfl (fun h4 => ?_) (fun h4 => absurd h3 h4)
      refine RC.seq ?_
      refine RC.seq ?_
      refine RC.region rfl ?_
      refine RL.ev (.move rfl) rfl rfl ?_
      refine RL.ev (.bin rfl rfl rfl) rfl rfl ?_
      refine RL.nil (RC.back ?_)
      refine RC.cond_dec rfl (fun h5 => ?_) (fun h5 => ?_)
      ·
        have k20 := h5
        refine RC.seq ?_
        refine RC.region rfl ?_
        refine RL.ev (.move rfl) rfl rfl ?_
        refine RL.call rfl ok78 (c_full w_5) rfl rfl ?_
        rintro _ w6 ⟨rfl, s7⟩
        have S := S.trans s7
        have hb_3 := hb_3.sub s7
        have hb_5 := hb_5.sub s7
        refine RL.ev (.assign rfl) rfl rfl ?_
        refine RL.store sh43 rfl rfl rfl hb_5 (by exact Nat.le_of_ble_eq_true rfl) (by rfl) rfl (fun w8 z8 hb_5 a8 => ?_)
        have S := S.upd a8 ge_5
        have hb_3 := hb_3.upd a8 n_3__5
        have hb_5 : Has w8 b_5 ([.int .i64 5, .int .i64 0, .int .i64 0]) _ := hb_5.now (by kernel_rfl)
        refine RL.nil (RC.back ?_)
        refine RC.done (rs := [.tmp 4, .cell 5 43]) (vs := [_, _]) rfl rfl ⟨rfl, ⟨_, rfl, .inr ⟨[.int .i64 5, .int .i64 0, .int .i64 0], sh43, hb_5.row, rfl⟩⟩, trivial⟩ ?_
        -- end 2
        have he : rowM l o = (l, ⟨5, 0, 0⟩) := (by rw [rowM, if_neg n11, if_pos (by omega), if_pos (by omega)])
        rw [he]
        exact ⟨S, _, _, M, rfl, hc, hF.sub S, Up.refl _ _⟩
      ·
        have n20 := h5
        refine RC.skip (RC.back ?_)
        refine RC.seq ?_
        refine RC.seq ?_
        refine RC.region rfl ?_
        refine RL.ev (.field0 fo40_1 rfl) rfl rfl ?_
        refine RL.ev (.load1 sh3 rfl (hb_3.cell rfl)) rfl rfl ?_
        refine RL.ev (.bin rfl rfl rfl) rfl rfl ?_
        refine RL.nil (RC.back ?_)
        refine RC.cond_dec rfl (fun h9 => ?_) (fun h9 => ?_)
        ·
          have k25 := h9
          refine RC.seq ?_
          refine RC.drawD (fun k => k = b_5) [5, 8] w_5.heap.size 9 rfl rfl mxo (fun w10 s11 => ?_)
          have hNN : ∀ k, ((k = b_5) ∨ w_5.heap.size ≤ k) → w.heap.size ≤ k := fun k e => e.elim (fun e => e ▸ ge_5) (fun e => Nat.le_trans S.size e)
          have ent_S := S.size
          have hN0 : ∀ k, w_5.heap.size ≤ k → w.heap.size ≤ k := fun k e => Nat.le_trans S.size e
          have ltD_b_3 := hb_3.lt
          have ltD_b_5 := hb_5.lt
          have szD := Nat.le_refl w_5.heap.size
          have S := S.trans s11
          have hb_3 := hb_3.sub s11
          have hb_5 := hb_5.sub s11
          have szD := Nat.le_trans szD s11.size
          refine RD.take 0 rfl (by kernel_rfl) (by kernel_rfl) (by kernel_rfl) (fun w' s' => .move rfl) rfl rfl ?_
          refine RD.take 2 rfl (by kernel_rfl) (by kernel_rfl) (by kernel_rfl) (fun w' s' => .field0 fo40_2 rfl) rfl rfl ?_
          refine RD.take 3 rfl (by kernel_rfl) (by kernel_rfl) (by kernel_rfl) (fun w' s' => .load1 sh2 rfl ((hb_3.step s' (fun e => e.elim (fun e => n_3__5 e) (fun e => Nat.not_le.2 ltD_b_3 e))).cell rfl)) rfl rfl ?_
          refine RD.take 6 rfl (by kernel_rfl) (by kernel_rfl) (by kernel_rfl) (fun w' s' => .buildS ze43 pl43 rfl rfl) rfl rfl ?_
          refine RD.all [1, 4] (by kernel_rfl) rfl (RDs.cons rfl ?_ (RDs.cons rfl ?_ (RDs.nil)))
          ·
            refine RL.call rfl ok80 (c_clip a l.length c hc w10) rfl rfl ?_
            rintro _ w12 ⟨rfl, s13⟩
            have S := S.trans s13
            have hb_3 := hb_3.sub s13
            have hb_5 := hb_5.sub s13
            have szD := Nat.le_trans szD s13.size
            refine RD.back s13.agr ?_
            refine RD.all [4] (by kernel_rfl) rfl (RDs.cons rfl ?_ (RDs.nil))
            refine RL.buildSlice1 sl36 _ ze2 rfl rfl rfl rfl rfl rfl rfl (fun b_30 w_30 e_30 z_30 hb_30 s_30 => ?_)
            have fr_b_30 : w_5.heap.size ≤ b_30 := by rw [e_30]; exact szD
            have ge_30 := S.le e_30
            have n_3__30 := hb_3.ne e_30
            have n_5__30 := hb_5.ne e_30
            have S := S.trans s_30
            have hb_3 := hb_3.sub s_30
            have hb_5 := hb_5.sub s_30
            have szD := Nat.le_trans szD s_30.size
            refine RD.back s_30.agr ?_
            refine RD.all [5] (by kernel_rfl) rfl (RDs.cons rfl ?_ (RDs.nil))
            refine RL.append2 (base := w_5.heap.size) (rows := l.map fun x => [i6 x]) (news := [[i6 o.a]]) sl36 ze2 rfl rfl rfl rfl (.inr ⟨a, by rw [List.length_map], hl.sub S, fun r hr => by obtain ⟨z, _, rfl⟩ := List.mem_map.1 hr; rfl⟩) (Has.slOne hb_30) rfl (fun r hr => by rw [List.mem_singleton.1 hr]; rfl) rfl (by rw [List.length_map]; omega) (by rw [List.length_map]; omega) szD rfl rfl (fun v31 w14 hc31 ho31 ag31 ob31 => ?_)
            have o31 := ho31 (.inl (by simp))
            have S := S.agrN ag31 (fun k e => Nat.le_trans ent_S e.2)
            have hb_3 := hb_3.step ag31 (fun e => Nat.not_le.2 ltD_b_3 e.2)
            have hb_5 := hb_5.step ag31 (fun e => Nat.not_le.2 ltD_b_5 e.2)
            have szD := Nat.le_trans szD ag31.size
            obtain ⟨a31, c31, rfl, k31⟩ := o31.form
            have d31_5 := (fun k hk (e : k = b_5) => by have := (o31.ge k hk).1; have := ltD_b_5; omega : ∀ k, _ → k ≠ b_5)
            have d31_3 := (fun k hk (e : k = b_3) => by have := (o31.ge k hk).1; have := ltD_b_3; omega : ∀ k, _ → k ≠ b_3)
            refine RD.backW rfl (ag31.mono fun k _ e => .inr e.2) ?_
            refine RD.take 7 rfl (by kernel_rfl) (by kernel_rfl) (by kernel_rfl) (fun w' s' => .assign rfl) rfl rfl ?_
            refine RD.all [8] (by kernel_rfl) rfl (RDs.cons rfl ?_ (RDs.nil))
            refine RL.store sh43 rfl rfl rfl hb_5 (by exact Nat.le_of_ble_eq_true rfl) (by rfl) rfl (fun w15 z15 hb_5 a15 => ?_)
            have S := S.upd a15 ge_5
            have hb_3 := hb_3.upd a15 n_3__5
            have szD := Nat.le_trans szD a15.size
            have o31 := o31.updD a15 d31_5
            have hb_5 : Has w15 b_5 ([.int .i64 0, .int .i64 0, .int .i64 0]) _ := hb_5.now (by kernel_rfl)
            refine RD.backW rfl (a15.mono fun k _ e => e ▸ (.inl (rfl))) ?_
            refine RD.done (by kernel_rfl) (RC.back ?_)
            refine RC.done (rs := [.tmp 4, .cell 5 43]) (vs := [_, _]) rfl rfl ⟨rfl, ⟨_, rfl, .inr ⟨[.int .i64 0, .int .i64 0, .int .i64 0], sh43, hb_5.row, rfl⟩⟩, trivial⟩ ?_
            -- end 3
            have he : rowM l o = (l ++ [o.a], ⟨0, 0, 0⟩) := (by rw [rowM, if_neg n11, if_pos (by omega), if_neg (by omega), if_pos k25])
            rw [he]
            exact ⟨S, a31, c31, _, by rw [show (l ++ [o.a]).length = ((l.map fun x => [i6 x]) ++ [[i6 o.a]]).length from by simp]; rfl, by have q := k31; simp at q ⊢; omega, (by rw [List.map_append]; exact o31.ft.imp (fun u h => h.sl.1)), fun k hk => .inr (Nat.le_trans ent_S (o31.ge k hk).1)⟩
          ·
            refine RL.buildSlice1 sl36 _ ze2 rfl rfl rfl rfl rfl rfl rfl (fun b_30 w_30 e_30 z_30 hb_30 s_30 => ?_)
            have fr_b_30 : w_5.heap.size ≤ b_30 := by rw [e_30]; exact szD
            have ge_30 := S.le e_30
            have n_3__30 := hb_3.ne e_30
            have n_5__30 := hb_5.ne e_30
            have S := S.trans s_30
            have hb_3 := hb_3.sub s_30
            have hb_5 := hb_5.sub s_30
            have szD := Nat.le_trans szD s_30.size
            refine RD.back s_30.agr ?_
            refine RD.all [1] (by kernel_rfl) rfl (RDs.cons rfl ?_ (RDs.nil))
            refine RL.call rfl ok80 (c_clip a l.length c hc w_30) rfl rfl ?_
            rintro _ w16 ⟨rfl, s17⟩
            have S := S.trans s17
            have hb_3 := hb_3.sub s17
            have hb_5 := hb_5.sub s17
            have szD := Nat.le_trans szD s17.size
            have hb_30 := hb_30.sub s17
            refine RD.back s17.agr ?_
            refine RD.all [5] (by kernel_rfl) rfl (RDs.cons rfl ?_ (RDs.nil))
            refine RL.append2 (base := w_5.heap.size) (rows := l.map fun x => [i6 x]) (news := [[i6 o.a]]) sl36 ze2 rfl rfl rfl rfl (.inr ⟨a, by rw [List.length_map], hl.sub S, fun r hr => by obtain ⟨z, _, rfl⟩ := List.mem_map.1 hr; rfl⟩) (Has.slOne hb_30) rfl (fun r hr => by rw [List.mem_singleton.1 hr]; rfl) rfl (by rw [List.length_map]; omega) (by rw [List.length_map]; omega) szD rfl rfl (fun v31 w18 hc31 ho31 ag31 ob31 => ?_)
            have o31 := ho31 (.inl (by simp))
            have S := S.agrN ag31 (fun k e => Nat.le_trans ent_S e.2)
            have hb_3 := hb_3.step ag31 (fun e => Nat.not_le.2 ltD_b_3 e.2)
            have hb_5 := hb_5.step ag31 (fun e => Nat.not_le.2 ltD_b_5 e.2)
            have szD := Nat.le_trans szD ag31.size
            obtain ⟨a31, c31, rfl, k31⟩ := o31.form
            have d31_5 := (fun k hk (e : k = b_5) => by have := (o31.ge k hk).1; have := ltD_b_5; omega : ∀ k, _ → k ≠ b_5)
            have d31_3 := (fun k hk (e : k = b_3) => by have := (o31.ge k hk).1; have := ltD_b_3; omega : ∀ k, _ → k ≠ b_3)
            refine RD.backW rfl (ag31.mono fun k _ e => .inr e.2) ?_
            refine RD.take 7 rfl (by kernel_rfl) (by kernel_rfl) (by kernel_rfl) (fun w' s' => .assign rfl) rfl rfl ?_
            refine RD.all [8] (by kernel_rfl) rfl (RDs.cons rfl ?_ (RDs.nil))
            refine RL.store sh43 rfl rfl rfl hb_5 (by exact Nat.le_of_ble_eq_true rfl) (by rfl) rfl (fun w19 z19 hb_5 a19 => ?_)
            have S := S.upd a19 ge_5
            have hb_3 := hb_3.upd a19 n_3__5
            have szD := Nat.le_trans szD a19.size
            have o31 := o31.updD a19 d31_5
            have hb_5 : Has w19 b_5 ([.int .i64 0, .int .i64 0, .int .i64 0]) _ := hb_5.now (by kernel_rfl)
            refine RD.backW rfl (a19.mono fun k _ e => e ▸ (.inl (rfl))) ?_
            refine RD.done (by kernel_rfl) (RC.back ?_)
            refine RC.done (rs := [.tmp 4, .cell 5 43]) (vs := [_, _]) rfl rfl ⟨rfl, ⟨_, rfl, .inr ⟨[.int .i64 0, .int .i64 0, .int .i64 0], sh43, hb_5.row, rfl⟩⟩, trivial⟩ ?_
            -- end 4
            have he : rowM l o = (l ++ [o.a], ⟨0, 0, 0⟩) := (by rw [rowM, if_neg n11, if_pos (by omega), if_neg (by omega), if_pos k25])
            rw [he]
            exact ⟨S, a31, c31, _, by rw [show (l ++ [o.a]).length = ((l.map fun x => [i6 x]) ++ [[i6 o.a]]).length from by simp]; rfl, by have q := k31; simp at q ⊢; omega, (by rw [List.map_append]; exact o31.ft.imp (fun u h => h.sl.1)), fun k hk => .inr (Nat.le_trans ent_S (o31.ge k hk).1)⟩
        ·
          have n25 := h9
          refine RC.skip (RC.back ?_)
          refine RC.seq ?_
          refine RC.region rfl ?_
          refine RL.ev (.field0 fo40_2 rfl) rfl rfl ?_
          refine RL.ev (.load1 sh2 rfl (hb_3.cell rfl)) rfl rfl ?_
          refine RL.buildSlice1 sl36 _ ze2 rfl rfl rfl rfl rfl rfl rfl (fun b_35 w_35 e_35 z_35 hb_35 s_35 => ?_)
          have ge_35 := S.le e_35
          have n_3__35 := hb_3.ne e_35
          have n_5__35 := hb_5.ne e_35
          have S := S.trans s_35
          have hb_3 := hb_3.sub s_35
          have hb_5 := hb_5.sub s_35
          refine RL.ev (.move rfl) rfl rfl ?_
          have sz_37 := S.size
          have ltb_3_37 := hb_3.lt
          have ltb_5_37 := hb_5.lt
          have ltb_35_37 := hb_35.lt
          refine RL.append2 (base := w.heap.size) (rows := [[i6 o.a]]) (news := l.map fun x => [i6 x]) sl36 ze2 rfl rfl rfl rfl (.inl (Ows.of_has (rows := [[i6 o.a]]) (extra := []) hb_35 (by simp) (by omega) (Nat.le_refl _) (by decide) rfl)) (hl.sub S) (by (try simp only [List.length_map]); first | done | rfl) (by intro r hr; obtain ⟨x, _, rfl⟩ := List.mem_map.1 hr; rfl) (by rw [List.all_eq_true]; intro r hr; obtain ⟨x, _, rfl⟩ := List.mem_map.1 hr; rfl) (by (try simp only [List.length_map, List.length_nil, List.length_append, List.length_cons]); omega) (by (try simp only [List.length_map, List.length_nil, List.length_append, List.length_cons]); omega) (by omega) rfl rfl (fun v_37 w_37 hc_37 ho_37 ag_37 ob_37 => ?_)
          have o37 := ho_37 (.inr (Ows.of_has (rows := [[i6 o.a]]) (extra := []) hb_35 (by simp) (by omega) (Nat.le_refl _) (by decide) rfl))
          have d_o37_b_3 := obNe ob_37 (fun k hk e => n_3__35.symm ((obLit hk).trans e)) hb_3.lt
          have d_o37_b_5 := obNe ob_37 (fun k hk e => n_5__35.symm ((obLit hk).trans e)) hb_5.lt
          have S := S.agrN ag_37 (fun k e => Nat.le_trans (by omega) e.2)
          have hb_3 := hb_3.step ag_37 (fun e => n_3__35.symm (obLit e.1))
          have hb_5 := hb_5.step ag_37 (fun e => n_5__35.symm (obLit e.1))
          obtain ⟨a_37, c_37, rfl, k_37⟩ := o37.form
          refine RL.ev (.buildS ze43 pl43 rfl rfl) rfl rfl ?_
          refine RL.ev (.assign rfl) rfl rfl ?_
          refine RL.store sh43 rfl rfl rfl hb_5 (by exact Nat.le_of_ble_eq_true rfl) (by rfl) rfl (fun w20 z20 hb_5 a20 => ?_)
          have S := S.upd a20 ge_5
          have hb_3 := hb_3.upd a20 n_3__5
          have o37 := o37.updD a20 d_o37_b_5
          have hb_5 : Has w20 b_5 ([.int .i64 0, .int .i64 0, .int .i64 0]) _ := hb_5.now (by kernel_rfl)
          refine RL.nil (RC.back ?_)
          refine RC.done (rs := [.tmp 4, .cell 5 43]) (vs := [_, _]) rfl rfl ⟨rfl, ⟨_, rfl, .inr ⟨[.int .i64 0, .int .i64 0, .int .i64 0], sh43, hb_5.row, rfl⟩⟩, trivial⟩ ?_
          -- end 5
          exact absurd k16 (by omega)
    ·
      have n16 := h3
      refine RC.region rfl ?_
      refine RL.ev (.bin rfl rfl rfl) rfl rfl ?_
      refine RL.ev (.assign rfl) rfl rfl ?_
      refine RL.nil (RC.back ?_)
      refine RC.cond_dec rfl (fun h21 => ?_) (fun h21 => ?_)
      ·
        have k16 := h21
        refine RC.seq ?_
        refine RC.seq ?_
        refine RC.region rfl ?_
        refine RL.ev (.move rfl) rfl rfl ?_
        refine RL.ev (.bin rfl rfl rfl) rfl rfl ?_
        refine RL.nil (RC.back ?_)
        refine RC.cond_dec rfl (fun h22 => ?_) (fun h22 => ?_)
        ·
          have k20 := h22
          refine RC.seq ?_
          refine RC.region rfl ?_
          refine RL.ev (.move rfl) rfl rfl ?_
          refine RL.call rfl ok78 (c_full w_5) rfl rfl ?_
          rintro _ w23 ⟨rfl, s24⟩
          have S := S.trans s24
          have hb_3 := hb_3.sub s24
          have hb_5 := hb_5.sub s24
          refine RL.ev (.assign rfl) rfl rfl ?_
          refine RL.store sh43 rfl rfl rfl hb_5 (by exact Nat.le_of_ble_eq_true rfl) (by rfl) rfl (fun w25 z25 hb_5 a25 => ?_)
          have S := S.upd a25 ge_5
          have hb_3 := hb_3.upd a25 n_3__5
          have hb_5 : Has w25 b_5 ([.int .i64 5, .int .i64 0, .int .i64 0]) _ := hb_5.now (by kernel_rfl)
          refine RL.nil (RC.back ?_)
          refine RC.done (rs := [.tmp 4, .cell 5 43]) (vs := [_, _]) rfl rfl ⟨rfl, ⟨_, rfl, .inr ⟨[.int .i64 5, .int .i64 0, .int .i64 0], sh43, hb_5.row, rfl⟩⟩, trivial⟩ ?_
          -- end 6
          have he : rowM l o = (l, ⟨5, 0, 0⟩) := (by rw [rowM, if_neg n11, if_pos (by omega), if_pos (by omega)])
          rw [he]
          exact ⟨S, _, _, M, rfl, hc, hF.sub S, Up.refl _ _⟩
        ·
          have n20 := h22
          refine RC.skip (RC.back ?_)
          refine RC.seq ?_
          refine RC.seq ?_
          refine RC.region rfl ?_
          refine RL.ev (.field0 fo40_1 rfl) rfl rfl ?_
          refine RL.ev (.load1 sh3 rfl (hb_3.cell rfl)) rfl rfl ?_
          refine RL.ev (.bin rfl rfl rfl) rfl rfl ?_
          refine RL.nil (RC.back ?_)
          refine RC.cond_dec rfl (fun h26 => ?_) (fun h26 => ?_)
          ·
            have k25 := h26
            refine RC.seq ?_
            refine RC.drawD (fun k => k = b_5) [5, 8] w_5.heap.size 9 rfl rfl mxo (fun w27 s28 => ?_)
            have hNN : ∀ k, ((k = b_5) ∨ w_5.heap.size ≤ k) → w.heap.size ≤ k := fun k e => e.elim (fun e => e ▸ ge_5) (fun e => Nat.le_trans S.size e)
            have ent_S := S.size
            have hN0 : ∀ k, w_5.heap.size ≤ k → w.heap.size ≤ k := fun k e => Nat.le_trans S.size e
            have ltD_b_3 := hb_3.lt
            have ltD_b_5 := hb_5.lt
            have szD := Nat.le_refl w_5.heap.size
            have S := S.trans s28
            have hb_3 := hb_3.sub s28
            have hb_5 := hb_5.sub s28
            have szD := Nat.le_trans szD s28.size
            refine RD.take 0 rfl (by kernel_rfl) (by kernel_rfl) (by kernel_rfl) (fun w' s' => .move rfl) rfl rfl ?_
            refine RD.take 2 rfl (by kernel_rfl) (by kernel_rfl) (by kernel_rfl) (fun w' s' => .field0 fo40_2 rfl) rfl rfl ?_
            refine RD.take 3 rfl (by kernel_rfl) (by kernel_rfl) (by kernel_rfl) (fun w' s' => .load1 sh2 rfl ((hb_3.step s' (fun e => e.elim (fun e => n_3__5 e) (fun e => Nat.not_le.2 ltD_b_3 e))).cell rfl)) rfl rfl ?_
            refine RD.take 6 rfl (by kernel_rfl) (by kernel_rfl) (by kernel_rfl) (fun w' s' => .buildS ze43 pl43 rfl rfl) rfl rfl ?_
            refine RD.all [1, 4] (by kernel_rfl) rfl (RDs.cons rfl ?_ (RDs.cons rfl ?_ (RDs.nil)))
            ·
              refine RL.call rfl ok80 (c_clip a l.length c hc w27) rfl rfl ?_
              rintro _ w29 ⟨rfl, s30⟩
              have S := S.trans s30
              have hb_3 := hb_3.sub s30
              have hb_5 := hb_5.sub s30
              have szD := Nat.le_trans szD s30.size
              refine RD.back s30.agr ?_
              refine RD.all [4] (by kernel_rfl) rfl (RDs.cons rfl ?_ (RDs.nil))
              refine RL.buildSlice1 sl36 _ ze2 rfl rfl rfl rfl rfl rfl rfl (fun b_30 w_30 e_30 z_30 hb_30 s_30 => ?_)
              have fr_b_30 : w_5.heap.size ≤ b_30 := by rw [e_30]; exact szD
              have ge_30 := S.le e_30
              have n_3__30 := hb_3.ne e_30
              have n_5__30 := hb_5.ne e_30
              have S := S.trans s_30
              have hb_3 := hb_3.sub s_30
              have hb_5 := hb_5.sub s_30
              have szD := Nat.le_trans szD s_30.size
              refine RD.back s_30.agr ?_
              refine RD.all [5] (by kernel_rfl) rfl (RDs.cons rfl ?_ (RDs.nil))
              refine RL.append2 (base := w_5.heap.size) (rows := l.map fun x => [i6 x]) (news := [[i6 o.a]]) sl36 ze2 rfl rfl rfl rfl (.inr ⟨a, by rw [List.length_map], hl.sub S, fun r hr => by obtain ⟨z, _, rfl⟩ := List.mem_map.1 hr; rfl⟩) (Has.slOne hb_30) rfl (fun r hr => by rw [List.mem_singleton.1 hr]; rfl) rfl (by rw [List.length_map]; omega) (by rw [List.length_map]; omega) szD rfl rfl (fun v31 w31 hc31 ho31 ag31 ob31 => ?_)
              have o31 := ho31 (.inl (by simp))
              have S := S.agrN ag31 (fun k e => Nat.le_trans ent_S e.2)
              have hb_3 := hb_3.step ag31 (fun e => Nat.not_le.2 ltD_b_3 e.2)
              have hb_5 := hb_5.step ag31 (fun e => Nat.not_le.2 ltD_b_5 e.2)
              have szD := Nat.le_trans szD ag31.size
              obtain ⟨a31, c31, rfl, k31⟩ := o31.form
              have d31_5 := (fun k hk (e : k = b_5) => by have := (o31.ge k hk).1; have := ltD_b_5; omega : ∀ k, _ → k ≠ b_5)
              have d31_3 := (fun k hk (e : k = b_3) => by have := (o31.ge k hk).1; have := ltD_b_3; omega : ∀ k, _ → k ≠ b_3)
              refine RD.backW rfl (ag31.mono fun k _ e => .inr e.2) ?_
              refine RD.take 7 rfl (by kernel_rfl) (by kernel_rfl) (by kernel_rfl) (fun w' s' => .assign rfl) rfl rfl ?_
              refine RD.all [8] (by kernel_rfl) rfl (RDs.cons rfl ?_ (RDs.nil))
              refine RL.store sh43 rfl rfl rfl hb_5 (by exact Nat.le_of_ble_eq_true rfl) (by rfl) rfl (fun w32 z32 hb_5 a32 => ?_)
              have S := S.upd a32 ge_5
              have hb_3 := hb_3.upd a32 n_3__5
              have szD := Nat.le_trans szD a32.size
              have o31 := o31.updD a32 d31_5
              have hb_5 : Has w32 b_5 ([.int .i64 0, .int .i64 0, .int .i64 0]) _ := hb_5.now (by kernel_rfl)
              refine RD.backW rfl (a32.mono fun k _ e => e ▸ (.inl (rfl))) ?_
              refine RD.done (by kernel_rfl) (RC.back ?_)
              refine RC.done (rs := [.tmp 4, .cell 5 43]) (vs := [_, _]) rfl rfl ⟨rfl, ⟨_, rfl, .inr ⟨[.int .i64 0, .int .i64 0, .int .i64 0], sh43, hb_5.row, rfl⟩⟩, trivial⟩ ?_
              -- end 7
              exact absurd k25 (by omega)
            ·
              refine RL.buildSlice1 sl36 _ ze2 rfl rfl rfl rfl rfl rfl rfl (fun b_30 w_30 e_30 z_30 hb_30 s_30 => ?_)
              have fr_b_30 : w_5.heap.size ≤ b_30 := by rw [e_30]; exact szD
              have ge_30 := S.le e_30
              have n_3__30 := hb_3.ne e_30
              have n_5__30 := hb_5.ne e_30
              have S := S.trans s_30
              have hb_3 := hb_3.sub s_30
              have hb_5 := hb_5.sub s_30
              have szD := Nat.le_trans szD s_30.size
              refine RD.back s_30.agr ?_
              refine RD.all [1] (by kernel_rfl) rfl (RDs.cons rfl ?_ (RDs.nil))
              refine RL.call rfl ok80 (c_clip a l.length c hc w_30) rfl rfl ?_
              rintro _ w33 ⟨rfl, s34⟩
              have S := S.trans s34
              have hb_3 := hb_3.sub s34
              have hb_5 := hb_5.sub s34
              have szD := Nat.le_trans szD s34.size
              have hb_30 := hb_30.sub s34
              refine RD.back s34.agr ?_
              refine RD.all [5] (by kernel_rfl) rfl (RDs.cons rfl ?_ (RDs.nil))
              refine RL.append2 (base := w_5.heap.size) (rows := l.map fun x => [i6 x]) (news := [[i6 o.a]]) sl36 ze2 rfl rfl rfl rfl (.inr ⟨a, by rw [List.length_map], hl.sub S, fun r hr => by obtain ⟨z, _, rfl⟩ := List.mem_map.1 hr; rfl⟩) (Has.slOne hb_30) rfl (fun r hr => by rw [List.mem_singleton.1 hr]; rfl) rfl (by rw [List.length_map]; omega) (by rw [List.length_map]; omega) szD rfl rfl (fun v31 w35 hc31 ho31 ag31 ob31 => ?_)
              have o31 := ho31 (.inl (by simp))
              have S := S.agrN ag31 (fun k e => Nat.le_trans ent_S e.2)
              have hb_3 := hb_3.step ag31 (fun e => Nat.not_le.2 ltD_b_3 e.2)
              have hb_5 := hb_5.step ag31 (fun e => Nat.not_le.2 ltD_b_5 e.2)
              have szD := Nat.le_trans szD ag31.size
              obtain ⟨a31, c31, rfl, k31⟩ := o31.form
              have d31_5 := (fun k hk (e : k = b_5) => by have := (o31.ge k hk).1; have := ltD_b_5; omega : ∀ k, _ → k ≠ b_5)
              have d31_3 := (fun k hk (e : k = b_3) => by have := (o31.ge k hk).1; have := ltD_b_3; omega : ∀ k, _ → k ≠ b_3)
              refine RD.backW rfl (ag31.mono fun k _ e => .inr e.2) ?_
              refine RD.take 7 rfl (by kernel_rfl) (by kernel_rfl) (by kernel_rfl) (fun w' s' => .assign rfl) rfl rfl ?_
              refine RD.all [8] (by kernel_rfl) rfl (RDs.cons rfl ?_ (RDs.nil))
              refine RL.store sh43 rfl rfl rfl hb_5 (by exact Nat.le_of_ble_eq_true rfl) (by rfl) rfl (fun w36 z36 hb_5 a36 => ?_)
              have S := S.upd a36 ge_5
              have hb_3 := hb_3.upd a36 n_3__5
              have szD := Nat.le_trans szD a36.size
              have o31 := o31.updD a36 d31_5
              have hb_5 : Has w36 b_5 ([.int .i64 0, .int .i64 0, .int .i64 0]) _ := hb_5.now (by kernel_rfl)
              refine RD.backW rfl (a36.mono fun k _ e => e ▸ (.inl (rfl))) ?_
              refine RD.done (by kernel_rfl) (RC.back ?_)
              refine RC.done (rs := [.tmp 4, .cell 5 43]) (vs := [_, _]) rfl rfl ⟨rfl, ⟨_, rfl, .inr ⟨[.int .i64 0, .int .i64 0, .int .i64 0], sh43, hb_5.row, rfl⟩⟩, trivial⟩ ?_
              -- end 8
              exact absurd k25 (by omega)
          ·
            have n25 := h26
            refine RC.skip (RC.back ?_)
            refine RC.seq ?_
            refine RC.region rfl ?_
            refine RL.ev (.field0 fo40_2 rfl) rfl rfl ?_
            refine RL.ev (.load1 sh2 rfl (hb_3.cell rfl)) rfl rfl ?_
            refine RL.buildSlice1 sl36 _ ze2 rfl rfl rfl rfl rfl rfl rfl (fun b_35 w_35 e_35 z_35 hb_35 s_35 => ?_)
            have ge_35 := S.le e_35
            have n_3__35 := hb_3.ne e_35
            have n_5__35 := hb_5.ne e_35
            have S := S.trans s_35
            have hb_3 := hb_3.sub s_35
            have hb_5 := hb_5.sub s_35
            refine RL.ev (.move rfl) rfl rfl ?_
            have sz_37 := S.size
            have ltb_3_37 := hb_3.lt
            have ltb_5_37 := hb_5.lt
            have ltb_35_37 := hb_35.lt
            refine RL.append2 (base := w.heap.size) (rows := [[i6 o.a]]) (news := l.map fun x => [i6 x]) sl36 ze2 rfl rfl rfl rfl (.inl (Ows.of_has (rows := [[i6 o.a]]) (extra := []) hb_35 (by simp) (by omega) (Nat.le_refl _) (by decide) rfl)) (hl.sub S) (by (try simp only [List.length_map]); first | done | rfl) (by intro r hr; obtain ⟨x, _, rfl⟩ := List.mem_map.1 hr; rfl) (by rw [List.all_eq_true]; intro r hr; obtain ⟨x, _, rfl⟩ := List.mem_map.1 hr; rfl) (by (try simp only [List.length_map, List.length_nil, List.length_append, List.length_cons]); omega) (by (try simp only [List.length_map, List.length_nil, List.length_append, List.length_cons]); omega) (by omega) rfl rfl (fun v_37 w_37 hc_37 ho_37 ag_37 ob_37 => ?_)
            have o37 := ho_37 (.inr (Ows.of_has (rows := [[i6 o.a]]) (extra := []) hb_35 (by simp) (by omega) (Nat.le_refl _) (by decide) rfl))
            have d_o37_b_3 := obNe ob_37 (fun k hk e => n_3__35.symm ((obLit hk).trans e)) hb_3.lt
            have d_o37_b_5 := obNe ob_37 (fun k hk e => n_5__35.symm ((obLit hk).trans e)) hb_5.lt
            have S := S.agrN ag_37 (fun k e => Nat.le_trans (by omega) e.2)
            have hb_3 := hb_3.step ag_37 (fun e => n_3__35.symm (obLit e.1))
            have hb_5 := hb_5.step ag_37 (fun e => n_5__35.symm (obLit e.1))
            obtain ⟨a_37, c_37, rfl, k_37⟩ := o37.form
            refine RL.ev (.buildS ze43 pl43 rfl rfl) rfl rfl ?_
            refine RL.ev (.assign rfl) rfl rfl ?_
            refine RL.store sh43 rfl rfl rfl hb_5 (by exact Nat.le_of_ble_eq_true rfl) (by rfl) rfl (fun w37 z37 hb_5 a37 => ?_)
            have S := S.upd a37 ge_5
            have hb_3 := hb_3.upd a37 n_3__5
            have o37 := o37.updD a37 d_o37_b_5
            have hb_5 : Has w37 b_5 ([.int .i64 0, .int .i64 0, .int .i64 0]) _ := hb_5.now (by kernel_rfl)
            refine RL.nil (RC.back ?_)
            refine RC.done (rs := [.tmp 4, .cell 5 43]) (vs := [_, _]) rfl rfl ⟨rfl, ⟨_, rfl, .inr ⟨[.int .i64 0, .int .i64 0, .int .i64 0], sh43, hb_5.row, rfl⟩⟩, trivial⟩ ?_
            -- end 9
            have he : rowM l o = (o.a :: l, ⟨0, 0, 0⟩) := (by rw [rowM, if_neg n11, if_pos (by omega), if_neg (by omega), if_neg n25])
            rw [he]
            exact ⟨S, a_37, c_37, _, by rw [show (o.a :: l).length = ([[i6 o.a]] ++ (l.map fun x => [i6 x])).length from by simp]; rfl, by have q := k_37; simp at q ⊢; omega, o37.ft.imp (fun u h => h.sl.1), fun k hk => .inr (o37.ge k hk).1⟩
      ·
        have n16 := h21
        refine RC.seq ?_
        refine RC.region rfl ?_
        refine RL.ev (.bin rfl rfl rfl) rfl rfl ?_
        refine RL.ev (.assign rfl) rfl rfl ?_
        refine RL.nil (RC.back ?_)
        refine RC.cond_dec rfl (fun h38 => ?_) (fun h38 => ?_)
        ·
          have k39 := h38
          refine RC.seq ?_
          refine RC.seq ?_
          refine RC.region rfl ?_
          refine RL.ev (.field0 fo40_2 rfl) rfl rfl ?_
          refine RL.ev (.load1 sh2 rfl (hb_3.cell rfl)) rfl rfl ?_
          refine RL.ev (.bin rfl rfl rfl) rfl rfl ?_
          refine RL.ev (.move rfl) rfl rfl ?_
          refine RL.split 44 rfl (fun h39 => ?_) (fun h39 => ?_)
          ·
            have k44 := h39
            refine RL.off rfl rfl ?_
            refine RL.off rfl rfl ?_
            refine RL.off rfl rfl ?_
            refine RL.off rfl rfl ?_
            refine RL.ev (.pick_t rfl rfl) rfl rfl ?_
            refine RL.nil (RC.back ?_)
            refine RC.cond_t rfl ?_
            refine RC.seq ?_
            refine RC.region rfl ?_
            refine RL.ev (.move rfl) rfl rfl ?_
            refine RL.call rfl ok75 (c_none w_5) rfl rfl ?_
            rintro _ w40 ⟨rfl, s41⟩
            have S := S.trans s41
            have hb_3 := hb_3.sub s41
            have hb_5 := hb_5.sub s41
            refine RL.ev (.assign rfl) rfl rfl ?_
            refine RL.store sh43 rfl rfl rfl hb_5 (by exact Nat.le_of_ble_eq_true rfl) (by rfl) rfl (fun w42 z42 hb_5 a42 => ?_)
            have S := S.upd a42 ge_5
            have hb_3 := hb_3.upd a42 n_3__5
            have hb_5 : Has w42 b_5 ([.int .i64 3, .int .i64 0, .int .i64 0]) _ := hb_5.now (by kernel_rfl)
            refine RL.nil (RC.back ?_)
            refine RC.done (rs := [.tmp 4, .cell 5 43]) (vs := [_, _]) rfl rfl ⟨rfl, ⟨_, rfl, .inr ⟨[.int .i64 3, .int .i64 0, .int .i64 0], sh43, hb_5.row, rfl⟩⟩, trivial⟩ ?_
            -- end 10
            have he : rowM l o = (l, ⟨3, 0, 0⟩) := (by rw [rowM, if_neg n11, if_neg (by omega), if_pos (by omega), if_pos (by omega)])
            rw [he]
            exact ⟨S, _, _, M, rfl, hc, hF.sub S, Up.refl _ _⟩
          ·
            have n44 := h39
            refine RL.ev (.field0 fo40_2 rfl) rfl rfl ?_
            refine RL.ev (.load1 sh2 rfl (hb_3.cell rfl)) rfl rfl ?_
            refine RL.ev (.move rfl) rfl rfl ?_
            refine RL.ev (.bin rfl rfl rfl) rfl rfl ?_
            refine RL.ev (.pick_f rfl rfl) rfl rfl ?_
            refine RL.nil (RC.back ?_)
            refine RC.cond_dec rfl (fun h43 => ?_) (fun h43 => ?_)
            ·
              have k49 := h43
              refine RC.seq ?_
              refine RC.region rfl ?_
              refine RL.ev (.move rfl) rfl rfl ?_
              refine RL.call rfl ok75 (c_none w_5) rfl rfl ?_
              rintro _ w44 ⟨rfl, s45⟩
              have S := S.trans s45
              have hb_3 := hb_3.sub s45
              have hb_5 := hb_5.sub s45
              refine RL.ev (.assign rfl) rfl rfl ?_
              refine RL.store sh43 rfl rfl rfl hb_5 (by exact Nat.le_of_ble_eq_true rfl) (by rfl) rfl (fun w46 z46 hb_5 a46 => ?_)
              have S := S.upd a46 ge_5
              have hb_3 := hb_3.upd a46 n_3__5
              have hb_5 : Has w46 b_5 ([.int .i64 3, .int .i64 0, .int .i64 0]) _ := hb_5.now (by kernel_rfl)
              refine RL.nil (RC.back ?_)
              refine RC.done (rs := [.tmp 4, .cell 5 43]) (vs := [_, _]) rfl rfl ⟨rfl, ⟨_, rfl, .inr ⟨[.int .i64 3, .int .i64 0, .int .i64 0], sh43, hb_5.row, rfl⟩⟩, trivial⟩ ?_
              -- end 11
              have he : rowM l o = (l, ⟨3, 0, 0⟩) := (by rw [rowM, if_neg n11, if_neg (by omega), if_pos (by omega), if_pos (by omega)])
              rw [he]
              exact ⟨S, _, _, M, rfl, hc, hF.sub S, Up.refl _ _⟩
            ·
              have n49 := h43
              obtain ⟨x, hx⟩ := getSome (l := l) (i := o.a.toNat) (by omega)
              have hxd := getD_of hx
              refine RC.skip (RC.back ?_)
              refine RC.seq ?_
              refine RC.drawD (fun k => k = b_5) [8] w_5.heap.size 9 rfl rfl mxo (fun w47 s48 => ?_)
              have hNN : ∀ k, ((k = b_5) ∨ w_5.heap.size ≤ k) → w.heap.size ≤ k := fun k e => e.elim (fun e => e ▸ ge_5) (fun e => Nat.le_trans S.size e)
              have ent_S := S.size
              have hN0 : ∀ k, w_5.heap.size ≤ k → w.heap.size ≤ k := fun k e => Nat.le_trans S.size e
              have ltD_b_3 := hb_3.lt
              have ltD_b_5 := hb_5.lt
              have szD := Nat.le_refl w_5.heap.size
              have S := S.trans s48
              have hb_3 := hb_3.sub s48
              have hb_5 := hb_5.sub s48
              have szD := Nat.le_trans szD s48.size
              refine RD.take 0 rfl (by kernel_rfl) (by kernel_rfl) (by kernel_rfl) (fun w' s' => .move rfl) rfl rfl ?_
              refine RD.take 1 rfl (by kernel_rfl) (by kernel_rfl) (by kernel_rfl) (fun w' s' => .move rfl) rfl rfl ?_
              refine RD.take 2 rfl (by kernel_rfl) (by kernel_rfl) (by kernel_rfl) (fun w' s' => .field0 fo40_2 rfl) rfl rfl ?_
              refine RD.take 3 rfl (by kernel_rfl) (by kernel_rfl) (by kernel_rfl) (fun w' s' => .load1 sh2 rfl ((hb_3.step s' (fun e => e.elim (fun e => n_3__5 e) (fun e => Nat.not_le.2 ltD_b_3 e))).cell rfl)) rfl rfl ?_
              refine RD.take 4 rfl (by kernel_rfl) (by kernel_rfl) (by kernel_rfl) (fun w' s' => .indexS sl36 rfl rfl (by omega) (hl.is (i := 0) (by simp only [List.length_map, List.length_cons, List.length_nil]; omega))) rfl rfl ?_
              refine RD.take 5 rfl (by kernel_rfl) (by kernel_rfl) (by kernel_rfl) (fun w' s' => .load1 sh2 rfl ((hl.sub (S.agrN s' hNN)).one (enc := i6) (i := o.a.toNat) hx)) rfl rfl ?_
              refine RD.take 6 rfl (by kernel_rfl) (by kernel_rfl) (by kernel_rfl) (fun w' s' => .buildS ze43 pl43 rfl rfl) rfl rfl ?_
              refine RD.take 7 rfl (by kernel_rfl) (by kernel_rfl) (by kernel_rfl) (fun w' s' => .assign rfl) rfl rfl ?_
              refine RD.all [8] (by kernel_rfl) rfl (RDs.cons rfl ?_ (RDs.nil))
              refine RL.store sh43 rfl rfl rfl hb_5 (by exact Nat.le_of_ble_eq_true rfl) (by rfl) rfl (fun w49 z49 hb_5 a49 => ?_)
              have S := S.upd a49 ge_5
              have hb_3 := hb_3.upd a49 n_3__5
              have szD := Nat.le_trans szD a49.size
              have hb_5 : Has w49 b_5 ([.int .i64 0, .int .i64 x, .int .i64 0]) _ := hb_5.now (by kernel_rfl)
              refine RD.backW rfl (a49.mono fun k _ e => e ▸ (.inl (rfl))) ?_
              refine RD.done (by kernel_rfl) (RC.back ?_)
              refine RC.done (rs := [.tmp 4, .cell 5 43]) (vs := [_, _]) rfl rfl ⟨rfl, ⟨_, rfl, .inr ⟨[.int .i64 0, .int .i64 x, .int .i64 0], sh43, hb_5.row, rfl⟩⟩, trivial⟩ ?_
              -- end 12
              have he : rowM l o = (l, ⟨0, x, 0⟩) := (by rw [rowM, if_neg n11, if_neg (by omega), if_pos (by omega), if_neg (by omega), hxd])
              rw [he]
              exact ⟨S, _, _, M, rfl, hc, hF.sub S, Up.refl _ _⟩
        ·
          have n39 := h38
          refine RC.skip (RC.back ?_)
          refine RC.seq ?_
          refine RC.block ?_
          refine RC.seq ?_
          refine RC.region rfl ?_
          refine RL.ev (.move rfl) rfl rfl ?_
          refine RL.ev (.bin rfl rfl rfl) rfl rfl ?_
          refine RL.ev (.assign rfl) rfl rfl ?_
          refine RL.nil (RC.back ?_)
          refine RC.cond_dec rfl (fun h50 => ?_) (fun h50 => ?_)
          ·
            have k59 : l.length = 0 := (by omega)
            refine RC.seq ?_
            refine RC.region rfl ?_
            refine RL.ev (.move rfl) rfl rfl ?_
            refine RL.call rfl ok75 (c_none w_5) rfl rfl ?_
            rintro _ w51 ⟨rfl, s52⟩
            have S := S.trans s52
            have hb_3 := hb_3.sub s52
            have hb_5 := hb_5.sub s52
            refine RL.ev (.assign rfl) rfl rfl ?_
            refine RL.store sh43 rfl rfl rfl hb_5 (by exact Nat.le_of_ble_eq_true rfl) (by rfl) rfl (fun w53 z53 hb_5 a53 => ?_)
            have S := S.upd a53 ge_5
            have hb_3 := hb_3.upd a53 n_3__5
            have hb_5 : Has w53 b_5 ([.int .i64 3, .int .i64 0, .int .i64 0]) _ := hb_5.now (by kernel_rfl)
            refine RL.nil (RC.back ?_)
            refine RC.done (rs := [.tmp 4, .cell 5 43]) (vs := [_, _]) rfl rfl ⟨rfl, ⟨_, rfl, .inr ⟨[.int .i64 3, .int .i64 0, .int .i64 0], sh43, hb_5.row, rfl⟩⟩, trivial⟩ ?_
            -- end 13
            have he : rowM l o = (l, ⟨3, 0, 0⟩) := (by rw [rowM, if_neg n11, if_neg (by omega), if_neg n39, if_pos k59])
            rw [he]
            exact ⟨S, _, _, M, rfl, hc, hF.sub S, Up.refl _ _⟩
          ·
            have n59 : 0 < l.length := (by omega)
            obtain ⟨x, hx⟩ := getSome (l := l) (i := l.length - 1) (by omega)
            have hxd := getD_of hx
            obtain ⟨y, hy⟩ := getSome (l := l) (i := 0) n59
            have hyd := getD_of hy
            refine RC.seq ?_
            refine RC.region rfl ?_
            refine RL.ev (.field0 fo40_1 rfl) rfl rfl ?_
            refine RL.ev (.load1 sh3 rfl (hb_3.cell rfl)) rfl rfl ?_
            refine RL.ev (.bin rfl rfl rfl) rfl rfl ?_
            refine RL.ev (.assign rfl) rfl rfl ?_
            refine RL.nil (RC.back ?_)
            refine RC.cond_dec rfl (fun h54 => ?_) (fun h54 => ?_)
            ·
              have k64 := h54
              refine RC.seq ?_
              refine RC.drawD (fun k => k = b_5) [11] w_5.heap.size 12 rfl rfl mxo (fun w55 s56 => ?_)
              have hNN : ∀ k, ((k = b_5) ∨ w_5.heap.size ≤ k) → w.heap.size ≤ k := fun k e => e.elim (fun e => e ▸ ge_5) (fun e => Nat.le_trans S.size e)
              have ent_S := S.size
              have hN0 : ∀ k, w_5.heap.size ≤ k → w.heap.size ≤ k := fun k e => Nat.le_trans S.size e
              have ltD_b_3 := hb_3.lt
              have ltD_b_5 := hb_5.lt
              have szD := Nat.le_refl w_5.heap.size
              have S := S.trans s56
              have hb_3 := hb_3.sub s56
              have hb_5 := hb_5.sub s56
              have szD := Nat.le_trans szD s56.size
              refine RD.take 0 rfl (by kernel_rfl) (by kernel_rfl) (by kernel_rfl) (fun w' s' => .move rfl) rfl rfl ?_
              refine RD.take 1 rfl (by kernel_rfl) (by kernel_rfl) (by kernel_rfl) (fun w' s' => .move rfl) rfl rfl ?_
              refine RD.take 2 rfl (by kernel_rfl) (by kernel_rfl) (by kernel_rfl) (fun w' s' => .as (.bin rfl rfl rfl) (wi64 (y := ((l.length - 1 : Nat) : Int)) (by omega) (by omega))) rfl rfl ?_
              refine RD.take 3 rfl (by kernel_rfl) (by kernel_rfl) (by kernel_rfl) (fun w' s' => .sliceHi sl36 rfl rfl (by omega)) rfl rfl ?_
              refine RD.take 4 rfl (by kernel_rfl) (by kernel_rfl) (by kernel_rfl) (fun w' s' => .move rfl) rfl rfl ?_
              refine RD.take 5 rfl (by kernel_rfl) (by kernel_rfl) (by kernel_rfl) (fun w' s' => .move rfl) rfl rfl ?_
              refine RD.take 6 rfl (by kernel_rfl) (by kernel_rfl) (by kernel_rfl) (fun w' s' => .as (.bin rfl rfl rfl) (wi64 (y := ((l.length - 1 : Nat) : Int)) (by omega) (by omega))) rfl rfl ?_
              refine RD.take 7 rfl (by kernel_rfl) (by kernel_rfl) (by kernel_rfl) (fun w' s' => .indexS sl36 rfl rfl (by omega) (hl.is (i := 0) (by simp only [List.length_map, List.length_cons, List.length_nil]; omega))) rfl rfl ?_
              refine RD.take 8 rfl (by kernel_rfl) (by kernel_rfl) (by kernel_rfl) (fun w' s' => .load1 sh2 rfl ((hl.sub (S.agrN s' hNN)).one (enc := i6) (i := l.length - 1) hx)) rfl rfl ?_
              refine RD.take 9 rfl (by kernel_rfl) (by kernel_rfl) (by kernel_rfl) (fun w' s' => .buildS ze43 pl43 rfl rfl) rfl rfl ?_
              refine RD.take 10 rfl (by kernel_rfl) (by kernel_rfl) (by kernel_rfl) (fun w' s' => .assign rfl) rfl rfl ?_
              refine RD.all [11] (by kernel_rfl) rfl (RDs.cons rfl ?_ (RDs.nil))
              refine RL.store sh43 rfl rfl rfl hb_5 (by exact Nat.le_of_ble_eq_true rfl) (by rfl) rfl (fun w57 z57 hb_5 a57 => ?_)
              have S := S.upd a57 ge_5
              have hb_3 := hb_3.upd a57 n_3__5
              have szD := Nat.le_trans szD a57.size
              have hb_5 : Has w57 b_5 ([.int .i64 0, .int .i64 x, .int .i64 0]) _ := hb_5.now (by kernel_rfl)
              refine RD.backW rfl (a57.mono fun k _ e => e ▸ (.inl (rfl))) ?_
              refine RD.done (by kernel_rfl) (RC.back ?_)
              refine RC.done (rs := [.tmp 4, .cell 5 43]) (vs := [_, _]) rfl rfl ⟨rfl, ⟨_, rfl, .inr ⟨[.int .i64 0, .int .i64 x, .int .i64 0], sh43, hb_5.row, rfl⟩⟩, trivial⟩ ?_
              -- end 14
              have he : rowM l o = (l.take (l.length - 1), ⟨0, x, 0⟩) := (by rw [rowM, if_neg n11, if_neg (by omega), if_neg n39, if_neg (by omega), if_pos k64, hxd])
              rw [he]
              exact ⟨S, a, c, M, by rw [show (l.take (l.length - 1)).length = l.length - 1 from by rw [List.length_take]; omega]; rfl, by rw [List.length_take]; omega, (hF.sub S).imp (fun u h => slTakeM h _), Up.refl _ _⟩
            ·
              have n64 := h54
              refine RC.skip (RC.back ?_)
              refine RC.seq ?_
              refine RC.drawD (fun k => k = b_5) [7] w_5.heap.size 8 rfl rfl mxo (fun w58 s59 => ?_)
              have hNN : ∀ k, ((k = b_5) ∨ w_5.heap.size ≤ k) → w.heap.size ≤ k := fun k e => e.elim (fun e => e ▸ ge_5) (fun e => Nat.le_trans S.size e)
              have ent_S := S.size
              have hN0 : ∀ k, w_5.heap.size ≤ k → w.heap.size ≤ k := fun k e => Nat.le_trans S.size e
              have ltD_b_3 := hb_3.lt
              have ltD_b_5 := hb_5.lt
              have szD := Nat.le_refl w_5.heap.size
              have S := S.trans s59
              have hb_3 := hb_3.sub s59
              have hb_5 := hb_5.sub s59
              have szD := Nat.le_trans szD s59.size
              refine RD.take 0 rfl (by kernel_rfl) (by kernel_rfl) (by kernel_rfl) (fun w' s' => .move rfl) rfl rfl ?_
              refine RD.take 1 rfl (by kernel_rfl) (by kernel_rfl) (by kernel_rfl) (fun w' s' => .sliceLo sl36 rfl rfl (by omega)) rfl rfl ?_
              refine RD.take 2 rfl (by kernel_rfl) (by kernel_rfl) (by kernel_rfl) (fun w' s' => .move rfl) rfl rfl ?_
              refine RD.take 3 rfl (by kernel_rfl) (by kernel_rfl) (by kernel_rfl) (fun w' s' => .indexS sl36 rfl rfl (by omega) (hl.is (i := 0) (by simp only [List.length_map, List.length_cons, List.length_nil]; omega))) rfl rfl ?_
              refine RD.take 4 rfl (by kernel_rfl) (by kernel_rfl) (by kernel_rfl) (fun w' s' => .load1 sh2 rfl ((hl.sub (S.agrN s' hNN)).one (enc := i6) (i := 0) hy)) rfl rfl ?_
              refine RD.take 5 rfl (by kernel_rfl) (by kernel_rfl) (by kernel_rfl) (fun w' s' => .buildS ze43 pl43 rfl rfl) rfl rfl ?_
              refine RD.take 6 rfl (by kernel_rfl) (by kernel_rfl) (by kernel_rfl) (fun w' s' => .assign rfl) rfl rfl ?_
              refine RD.all [7] (by kernel_rfl) rfl (RDs.cons rfl ?_ (RDs.nil))
              refine RL.store sh43 rfl rfl rfl hb_5 (by exact Nat.le_of_ble_eq_true rfl) (by rfl) rfl (fun w60 z60 hb_5 a60 => ?_)
              have S := S.upd a60 ge_5
              have hb_3 := hb_3.upd a60 n_3__5
              have szD := Nat.le_trans szD a60.size
              have hb_5 : Has w60 b_5 ([.int .i64 0, .int .i64 y, .int .i64 0]) _ := hb_5.now (by kernel_rfl)
              refine RD.backW rfl (a60.mono fun k _ e => e ▸ (.inl (rfl))) ?_
              refine RD.done (by kernel_rfl) (RC.back ?_)
              refine RC.done (rs := [.tmp 4, .cell 5 43]) (vs := [_, _]) rfl rfl ⟨rfl, ⟨_, rfl, .inr ⟨[.int .i64 0, .int .i64 y, .int .i64 0], sh43, hb_5.row, rfl⟩⟩, trivial⟩ ?_
              -- end 15
              have he : rowM l o = (l.drop 1, ⟨0, y, 0⟩) := (by rw [rowM, if_neg n11, if_neg (by omega), if_neg n39, if_neg (by omega), if_neg n64, hyd])
              rw [he]
              exact ⟨S, _, _, M, by rw [List.length_drop]; rfl, by rw [List.length_drop]; show _ ≤ c - 1; omega, (hF.sub S).imp (fun u h => slDropM h 1 hc), Up.refl _ _⟩
end Go.Proofs.Ytlhnnleaiinjaaa
set_option linter.unusedVariables false
set_option linter.unusedSimpArgs false
namespace Go.Proofs.Ytlhnnleaiinjaaa
open Go Go.XL
def whN (l : List It) (x : It) : Nat := (l.takeWhile fun z => decide (lessP z x)).length
theorem whN_of {x : It} : ∀ {l : List It} {n : Nat}, n ≤ l.length → (∀ k z, k < n → l[k]? = some z → lessP z x) → (∀ z, l[n]? = some z → ¬ lessP z x) → whN l x = n
  | [], n, hn, _, _ => by simp at hn; subst hn; rfl
  | y :: l, 0, _, _, h2 => by
    have := h2 y rfl
    unfold whN
    rw [List.takeWhile_cons, decide_eq_false this]; rfl
  | y :: l, n + 1, hn, h1, h2 => by
    have h0 := h1 0 y (by omega) rfl
    have ih := whN_of (l := l) (n := n) (by simpa using hn) (fun k z hk hz => h1 (k + 1) z (by omega) hz) (fun z hz => h2 z hz)
    unfold whN at ih ⊢
    rw [List.takeWhile_cons, decide_eq_true h0]
    simp only [if_true, List.length_cons, ih]
def heapM (l : List It) (o : OpT) : List It × ResT :=
  if o.kind = 6 then (l, ⟨0, l.length, 0⟩)
  else if o.kind = 2 then
    if 200 ≤ l.length then (l, ⟨5, 0, 0⟩) else (l.take (whN l ⟨o.a, o.b⟩) ++ ⟨o.a, o.b⟩ :: l.drop (whN l ⟨o.a, o.b⟩), ⟨0, 0, 0⟩)
  else if l.length = 0 then (l, ⟨3, 0, 0⟩)
  else (if o.kind = 3 then l.drop 1 else l, ⟨0, (valAt l 0).k, (valAt l 0).v⟩)
def SrtH (l : List It) : Prop := ∀ i x y, l[i]? = some x → l[i + 1]? = some y → ¬ lessP y x
theorem SrtH.le {l : List It} (h : SrtH l) : ∀ (d i : Nat) (x y : It), l[i]? = some x → l[i + d]? = some y → ¬ lessP y x
  | 0, i, x, y, hx, hy => by rw [Nat.add_zero, hx] at hy; cases hy; unfold lessP; omega
  | d + 1, i, x, y, hx, hy => by
    obtain ⟨z, hz⟩ := getSome (l := l) (i := i + d) (by have := lt_of_get hy; omega)
    have h1 := SrtH.le h d i x z hx hz
    have h2 := h (i + d) z y hz hy
    unfold lessP at *
    omega
theorem cmpIt_neg {x y : It} : cmpIt x y < 0 ↔ lessP x y := by
  rcases cmpIt_cases x y with ⟨h, e⟩ | ⟨h, e⟩ | ⟨h, e⟩
  · rw [e]; exact ⟨fun _ => h, fun _ => by decide⟩
  · rw [e]; exact ⟨fun h => absurd h (by decide), fun h2 => by unfold lessP at *; omega⟩
  · subst h; rw [e]; exact ⟨fun h => absurd h (by decide), fun h2 => by unfold lessP at *; omega⟩
theorem c_heap (l : List It) (a : Option Addr) (c m : Nat) (hm : m = l.length) (hs : SrtH l) (hl200 : l.length ≤ 200) (hc : l.length ≤ c) (o : OpT) (hok : okP o) (w : World) (M : Nat → Prop) (hF : Ft M (fun u => Sl u a 2 (l.map It.cells)) w) :
    FC Try.prog 69 [.slice a m c, .agg o.cells.toArray] w (fun u w' => AnsP M w w' (heapM l o) u) := by
  subst hm
  have hl := hF.now
  have hk := hok.1
  have hkk : 1 ≤ o.kind ∧ o.kind ≤ 6 := ⟨hk.2.2.1, hk.2.2.2.1⟩
  refine FC.intro Try.func69 rfl Try.ntmps69 rfl ?_
  have S := Sub.refl w
  refine RC.seq ?_
  refine RC.region rfl ?_
  refine RL.box rfl rfl rfl (fun b_3 w_3 e_3 z_3 hb_3 s_3 => ?_)
  have ge_3 := S.le e_3
  have S := S.trans s_3
  have hb_3 : Has w_3 b_3 ([.int .i64 o.box, .int .i64 o.kind, .int .i64 o.a, .int .i64 o.b]) _ := hb_3
  refine RL.ev (.assign rfl) rfl rfl ?_
  refine RL.alloc ze43 rfl rfl (fun b_5 w_5 e_5 z_5 hb_5 s_5 => ?_)
  have ge_5 := S.le e_5
  have n_3__5 := hb_3.ne e_5
  have S := S.trans s_5
  have hb_3 := hb_3.sub s_5
  refine RL.nil (RC.back ?_)
  refine RC.seq ?_
  refine RC.block ?_
  refine RC.seq ?_
  refine RC.region rfl ?_
  refine RL.ev (.field0 fo40_1 rfl) rfl rfl ?_
  refine RL.ev (.load1 sh3 rfl (hb_3.cell rfl)) rfl rfl ?_
  refine RL.ev (.bin rfl rfl rfl) rfl rfl ?_
  refine RL.ev (.assign rfl) rfl rfl ?_
  refine RL.nil (RC.back ?_)
  refine RC.cond_dec rfl (fun h1 => ?_) (fun h1 => ?_)
  ·
    have k10 := h1
    refine RC.seq ?_
    refine RC.region rfl ?_
    refine RL.ev (.move rfl) rfl rfl ?_
    refine RL.ev (.move rfl) rfl rfl ?_
    refine RL.ev (.len sl35 rfl) rfl rfl ?_
    refine RL.ev (.buildS ze43 pl43 rfl rfl) rfl rfl ?_
    refine RL.ev (.assign rfl) rfl rfl ?_
    refine RL.store sh43 rfl rfl rfl hb_5 (by exact Nat.le_of_ble_eq_true rfl) (by rfl) rfl (fun w2 z2 hb_5 a2 => ?_)
    have S := S.upd a2 ge_5
    have hb_3 := hb_3.upd a2 n_3__5
    have hb_5 : Has w2 b_5 ([.int .i64 0, .int .i64 (l.length : Int), .int .i64 0]) _ := hb_5.now (by kernel_rfl)
    refine RL.nil (RC.back ?_)
    refine RC.done (rs := [.tmp 4, .cell 5 43]) (vs := [_, _]) rfl rfl ⟨rfl, ⟨_, rfl, .inr ⟨[.int .i64 0, .int .i64 (l.length : Int), .int .i64 0], sh43, hb_5.row, rfl⟩⟩, trivial⟩ ?_
    -- end 1
    have he : heapM l o = (l, ⟨0, l.length, 0⟩) := (by rw [heapM, if_pos k10])
    rw [he]
    exact ⟨S, _, _, M, rfl, hc, hF.sub S, Up.refl _ _⟩
  ·
    have n10 := h1
    refine RC.seq ?_
    refine RC.region rfl ?_
    refine RL.ev (.field0 fo40_1 rfl) rfl rfl ?_
    refine RL.ev (.load1 sh3 rfl (hb_3.cell rfl)) rfl rfl ?_
    refine RL.ev (.bin rfl rfl rfl) rfl rfl ?_
    refine RL.ev (.move rfl) rfl rfl ?_
    refine RL.split 22 rfl (fun h3 => ?_) (fun h3 => ?_)
    ·
      have k22 := h3
      refine RL.ev (.move rfl) rfl rfl ?_
      refine RL.ev (.len sl35 rfl) rfl rfl ?_
      refine RL.ev (.bin rfl rfl rfl) rfl rfl ?_
      refine RL.ev (.pick_t rfl rfl) rfl rfl ?_
      refine RL.ev (.assign rfl) rfl rfl ?_
      refine RL.nil (RC.back ?_)
      refine RC.cond_dec rfl (fun h4 => ?_) (fun h4 => ?_)
      ·
        have k18 : 200 ≤ l.length := (by omega)
        refine RC.seq ?_
        refine RC.region rfl ?_
        refine RL.ev (.move rfl) rfl rfl ?_
        refine RL.call rfl ok78 (c_full w_5) rfl rfl ?_
        rintro _ w5 ⟨rfl, s6⟩
        have S := S.trans s6
        have hb_3 := hb_3.sub s6
        have hb_5 := hb_5.sub s6
        refine RL.ev (.assign rfl) rfl rfl ?_
        refine RL.store sh43 rfl rfl rfl hb_5 (by exact Nat.le_of_ble_eq_true rfl) (by rfl) rfl (fun w7 z7 hb_5 a7 => ?_)
        have S := S.upd a7 ge_5
        have hb_3 := hb_3.upd a7 n_3__5
        have hb_5 : Has w7 b_5 ([.int .i64 5, .int .i64 0, .int .i64 0]) _ := hb_5.now (by kernel_rfl)
        refine RL.nil (RC.back ?_)
        refine RC.done (rs := [.tmp 4, .cell 5 43]) (vs := [_, _]) rfl rfl ⟨rfl, ⟨_, rfl, .inr ⟨[.int .i64 5, .int .i64 0, .int .i64 0], sh43, hb_5.row, rfl⟩⟩, trivial⟩ ?_
        -- end 2
        have he : heapM l o = (l, ⟨5, 0, 0⟩) := (by rw [heapM, if_neg n10, if_pos k22, if_pos k18])
        rw [he]
        exact ⟨S, _, _, M, rfl, hc, hF.sub S, Up.refl _ _⟩
      ·
        have n18 : ¬ 200 ≤ l.length := (by omega)
        refine RC.seq ?_
        refine RC.region rfl ?_
        refine RL.ev (.field0 fo40_1 rfl) rfl rfl ?_
        refine RL.ev (.load1 sh3 rfl (hb_3.cell rfl)) rfl rfl ?_
        refine RL.ev (.bin rfl rfl rfl) rfl rfl ?_
        refine RL.ev (.assign rfl) rfl rfl ?_
        refine RL.nil (RC.back ?_)
        refine RC.cond_dec rfl (fun h8 => ?_) (fun h8 => ?_)
        ·
          have k29 := h8
          refine RC.seq ?_
          refine RC.region rfl ?_
          refine RL.ev (.field0 fo40_2 rfl) rfl rfl ?_
          refine RL.ev (.load1 sh2 rfl (hb_3.cell rfl)) rfl rfl ?_
          refine RL.ev (.field0 fo40_3 rfl) rfl rfl ?_
          refine RL.ev (.load1 sh2 rfl (hb_3.cell rfl)) rfl rfl ?_
          refine RL.ev (.buildS ze82 pl82 rfl rfl) rfl rfl ?_
          refine RL.alloc ze82 rfl rfl (fun b_6 w_6 e_6 z_6 hb_6 s_6 => ?_)
          have ge_6 := S.le e_6
          have n_3__6 := hb_3.ne e_6
          have n_5__6 := hb_5.ne e_6
          have S := S.trans s_6
          have hb_3 := hb_3.sub s_6
          have hb_5 := hb_5.sub s_6
          refine RL.store sh82 rfl rfl rfl hb_6 (by exact Nat.le_of_ble_eq_true rfl) (by rfl) rfl (fun w9 z9 hb_6 a9 => ?_)
          have S := S.upd a9 ge_6
          have hb_3 := hb_3.upd a9 n_3__6
          have hb_5 := hb_5.upd a9 n_5__6
          have hb_6 : Has w9 b_6 ([.int .i64 o.a, .int .i64 o.b]) _ := hb_6.now (by kernel_rfl)
          refine RL.nil (RC.back ?_)
          refine RC.seq ?_
          refine RC.region rfl ?_
          refine RL.ev (.move rfl) rfl rfl ?_
          refine RL.ev (.loadR ([.int .i64 o.a, .int .i64 o.b]) sh82 rfl hb_6.row rfl) rfl rfl ?_
          refine RL.call rfl ok81 (c_bsf2 56 ok56 ⟨o.a, o.b⟩ (fun x => cmpIt x ⟨o.a, o.b⟩) (fun x w' => c_less x ⟨o.a, o.b⟩ w') l (fun i j x y hij hx hy h => by rw [cmpIt_neg] at h ⊢; obtain ⟨d, rfl⟩ := Nat.le.dest hij; have q := hs.le d i x y hx hy; unfold lessP at *; omega) a c _ rfl w9 (hl.sub S) (by omega)) rfl rfl ?_
          rintro _ w10 ⟨s11, n, hn1, rfl, hn2, hn3⟩
          have S := S.trans s11
          have hb_3 := hb_3.sub s11
          have hb_5 := hb_5.sub s11
          have hb_6 := hb_6.sub s11
          have hwn : whN l ⟨o.a, o.b⟩ = n := whN_of hn1 (fun k z h1 h2 => cmpIt_neg.1 (hn2 k z h1 h2)) (fun z hz h => hn3 n z (Nat.le_refl _) hz (cmpIt_neg.2 h))
          refine RL.ev (.move rfl) rfl rfl ?_
          refine RL.ev (.extract rfl rfl) rfl rfl ?_
          refine RL.ev (.extract rfl rfl) rfl rfl ?_
          refine RL.ev (.assign rfl) rfl rfl ?_
          refine RL.ev (.assign rfl) rfl rfl ?_
          refine RL.nil (RC.back ?_)
          refine RC.seq ?_
          refine RC.drawD (fun k => k = b_5) [5, 8] w10.heap.size 9 rfl rfl mxo (fun w12 s13 => ?_)
          have hNN : ∀ k, ((k = b_5) ∨ w10.heap.size ≤ k) → w.heap.size ≤ k := fun k e => e.elim (fun e => e ▸ ge_5) (fun e => Nat.le_trans S.size e)
          have ent_S := S.size
          have hN0 : ∀ k, w10.heap.size ≤ k → w.heap.size ≤ k := fun k e => Nat.le_trans S.size e
          have ltD_b_3 := hb_3.lt
          have ltD_b_5 := hb_5.lt
          have ltD_b_6 := hb_6.lt
          have szD := Nat.le_refl w10.heap.size
          have S := S.trans s13
          have hb_3 := hb_3.sub s13
          have hb_5 := hb_5.sub s13
          have hb_6 := hb_6.sub s13
          have szD := Nat.le_trans szD s13.size
          refine RD.take 0 rfl (by kernel_rfl) (by kernel_rfl) (by kernel_rfl) (fun w' s' => .move rfl) rfl rfl ?_
          refine RD.take 2 rfl (by kernel_rfl) (by kernel_rfl) (by kernel_rfl) (fun w' s' => .move rfl) rfl rfl ?_
          refine RD.take 3 rfl (by kernel_rfl) (by kernel_rfl) (by kernel_rfl) (fun w' s' => .loadR ([.int .i64 o.a, .int .i64 o.b]) sh82 rfl (hb_6.step s' (fun e => e.elim (fun e => n_5__6.symm e) (fun e => Nat.not_le.2 ltD_b_6 e))).row rfl) rfl rfl ?_
          refine RD.take 6 rfl (by kernel_rfl) (by kernel_rfl) (by kernel_rfl) (fun w' s' => .buildS ze43 pl43 rfl rfl) rfl rfl ?_
          refine RD.all [1, 4] (by kernel_rfl) rfl (RDs.cons rfl ?_ (RDs.cons rfl ?_ (RDs.nil)))
          ·
            refine RL.call rfl ok77 (c_clone l a c _ rfl w12 (hl.sub S) (by omega)) rfl rfl ?_
            rintro _ w14 ⟨a84, c84, rfl, o84, s15⟩
            have lt3 := hb_3.lt
            have lt5 := hb_5.lt
            have lt6 := hb_6.lt
            have szS := S.size
            have szD84 := szD
            have szB84 := s15.size
            have S := S.trans s15
            have hb_3 := hb_3.sub s15
            have hb_5 := hb_5.sub s15
            have hb_6 := hb_6.sub s15
            have szD := Nat.le_trans szD s15.size
            have d84_3 : ∀ k, ob (.slice a84 l.length c84) = some k → k ≠ b_3 := (fun k hk e => by have := (o84.ge k hk).1; omega)
            have d84_5 : ∀ k, ob (.slice a84 l.length c84) = some k → k ≠ b_5 := (fun k hk e => by have := (o84.ge k hk).1; omega)
            have d84_6 : ∀ k, ob (.slice a84 l.length c84) = some k → k ≠ b_6 := (fun k hk e => by have := (o84.ge k hk).1; omega)
            have o84w := o84.whole
            refine RD.back s15.agr ?_
            refine RD.all [4] (by kernel_rfl) rfl (RDs.cons rfl ?_ (RDs.nil))
            refine RL.buildSlice1 sl35 _ ze82 rfl rfl rfl rfl rfl rfl rfl (fun b_48 w_48 e_48 z_48 hb_48 s_48 => ?_)
            have fr_b_48 : w10.heap.size ≤ b_48 := by rw [e_48]; exact szD
            have ge_48 := S.le e_48
            have n_3__48 := hb_3.ne e_48
            have n_5__48 := hb_5.ne e_48
            have n_6__48 := hb_6.ne e_48
            have d_o84_b_48 := o84.neNew e_48
            have S := S.trans s_48
            have hb_3 := hb_3.sub s_48
            have hb_5 := hb_5.sub s_48
            have hb_6 := hb_6.sub s_48
            have szD := Nat.le_trans szD s_48.size
            have szB84 := Nat.le_trans szB84 s_48.size
            have o84 := o84.sub s_48
            refine RD.back s_48.agr ?_
            refine RD.all [5] (by kernel_rfl) rfl (RDs.cons rfl ?_ (RDs.nil))
            refine RL.call rfl ok79 (c_insert l ⟨o.a, o.b⟩ _ a84 c84 b_48 n w_48 o84 szB84 (by rcases o84w with ⟨q, _⟩ | ⟨g, ex, q, _, _, _, q2⟩; injection q with _ _ q; omega; injection q with _ _ q; rw [q]; exact Nat.le_trans q2 (by decide)) (by omega) hn1 hb_48 (by first | exact d_o84_b_48 | exact (fun k hk e => by have := (o84.ge k hk).1; omega))) rfl rfl ?_
            rintro _ w16 ⟨a88', c88', M88, rfl, hc88, hF88, hM88, a49⟩
            have S := S.agrN a49 (fun k e => Nat.le_trans szS (o84.ge k e).1)
            have hb_3 := hb_3.step a49 (fun e => d84_3 _ e rfl)
            have hb_5 := hb_5.step a49 (fun e => d84_5 _ e rfl)
            have hb_6 := hb_6.step a49 (fun e => d84_6 _ e rfl)
            have szD := Nat.le_trans szD a49.size
            have d88_5 : ∀ k, M88 k → k ≠ b_5 := (fun k hk e => by have := hM88 k hk; omega)
            have d88_3 : ∀ k, M88 k → k ≠ b_3 := (fun k hk e => by have := hM88 k hk; omega)
            have d88_6 : ∀ k, M88 k → k ≠ b_6 := (fun k hk e => by have := hM88 k hk; omega)
            refine RD.backW rfl (a49.mono fun k _ e => .inr (Nat.le_trans szD84 (o84.ge k e).1)) ?_
            refine RD.take 7 rfl (by kernel_rfl) (by kernel_rfl) (by kernel_rfl) (fun w' s' => .assign rfl) rfl rfl ?_
            refine RD.all [8] (by kernel_rfl) rfl (RDs.cons rfl ?_ (RDs.nil))
            refine RL.store sh43 rfl rfl rfl hb_5 (by exact Nat.le_of_ble_eq_true rfl) (by rfl) rfl (fun w18 z18 hb_5 a18 => ?_)
            have S := S.upd a18 ge_5
            have hb_3 := hb_3.upd a18 n_3__5
            have hb_6 := hb_6.upd a18 n_5__6.symm
            have szD := Nat.le_trans szD a18.size
            have hF88 := hF88.updD a18 d88_5
            have hb_5 : Has w18 b_5 ([.int .i64 0, .int .i64 0, .int .i64 0]) _ := hb_5.now (by kernel_rfl)
            refine RD.backW rfl (a18.mono fun k _ e => e ▸ (.inl (rfl))) ?_
            refine RD.done (by kernel_rfl) (RC.back ?_)
            refine RC.done (rs := [.tmp 4, .cell 5 43]) (vs := [_, _]) rfl rfl ⟨rfl, ⟨_, rfl, .inr ⟨[.int .i64 0, .int .i64 0, .int .i64 0], sh43, hb_5.row, rfl⟩⟩, trivial⟩ ?_
            -- end 3
            have he : heapM l o = (l.take n ++ ⟨o.a, o.b⟩ :: l.drop n, ⟨0, 0, 0⟩) := (by rw [heapM, if_neg n10, if_pos k22, if_neg n18, hwn])
            rw [he]
            exact ⟨S, _, _, M88, by rw [show (l.take n ++ (⟨o.a, o.b⟩ : It) :: l.drop n).length = l.length + 1 from by rw [List.length_append, List.length_cons, List.length_take, List.length_drop]; omega]; rfl, by rw [show (l.take n ++ (⟨o.a, o.b⟩ : It) :: l.drop n).length = l.length + 1 from by rw [List.length_append, List.length_cons, List.length_take, List.length_drop]; omega]; exact hc88, hF88, fun k hk => .inr (Nat.le_trans szS (hM88 k hk))⟩
          ·
            refine RL.buildSlice1 sl35 _ ze82 rfl rfl rfl rfl rfl rfl rfl (fun b_48 w_48 e_48 z_48 hb_48 s_48 => ?_)
            have fr_b_48 : w10.heap.size ≤ b_48 := by rw [e_48]; exact szD
            have ge_48 := S.le e_48
            have n_3__48 := hb_3.ne e_48
            have n_5__48 := hb_5.ne e_48
            have n_6__48 := hb_6.ne e_48
            have S := S.trans s_48
            have hb_3 := hb_3.sub s_48
            have hb_5 := hb_5.sub s_48
            have hb_6 := hb_6.sub s_48
            have szD := Nat.le_trans szD s_48.size
            refine RD.back s_48.agr ?_
            refine RD.all [1] (by kernel_rfl) rfl (RDs.cons rfl ?_ (RDs.nil))
            refine RL.call rfl ok77 (c_clone l a c _ rfl w_48 (hl.sub S) (by omega)) rfl rfl ?_
            rintro _ w19 ⟨a84, c84, rfl, o84, s20⟩
            have lt3 := hb_3.lt
            have lt5 := hb_5.lt
            have lt6 := hb_6.lt
            have szS := S.size
            have szD84 := szD
            have szB84 := s20.size
            have S := S.trans s20
            have hb_3 := hb_3.sub s20
            have hb_5 := hb_5.sub s20
            have hb_6 := hb_6.sub s20
            have szD := Nat.le_trans szD s20.size
            have hb_48 := hb_48.sub s20
            have d84_3 : ∀ k, ob (.slice a84 l.length c84) = some k → k ≠ b_3 := (fun k hk e => by have := (o84.ge k hk).1; omega)
            have d84_5 : ∀ k, ob (.slice a84 l.length c84) = some k → k ≠ b_5 := (fun k hk e => by have := (o84.ge k hk).1; omega)
            have d84_6 : ∀ k, ob (.slice a84 l.length c84) = some k → k ≠ b_6 := (fun k hk e => by have := (o84.ge k hk).1; omega)
            have o84w := o84.whole
            refine RD.back s20.agr ?_
            refine RD.all [5] (by kernel_rfl) rfl (RDs.cons rfl ?_ (RDs.nil))
            refine RL.call rfl ok79 (c_insert l ⟨o.a, o.b⟩ _ a84 c84 b_48 n w19 o84 szB84 (by rcases o84w with ⟨q, _⟩ | ⟨g, ex, q, _, _, _, q2⟩; injection q with _ _ q; omega; injection q with _ _ q; rw [q]; exact Nat.le_trans q2 (by decide)) (by omega) hn1 hb_48 (by first | exact d_o84_b_48 | exact (fun k hk e => by have := (o84.ge k hk).1; omega))) rfl rfl ?_
            rintro _ w21 ⟨a88', c88', M88, rfl, hc88, hF88, hM88, a49⟩
            have S := S.agrN a49 (fun k e => Nat.le_trans szS (o84.ge k e).1)
            have hb_3 := hb_3.step a49 (fun e => d84_3 _ e rfl)
            have hb_5 := hb_5.step a49 (fun e => d84_5 _ e rfl)
            have hb_6 := hb_6.step a49 (fun e => d84_6 _ e rfl)
            have szD := Nat.le_trans szD a49.size
            have d88_5 : ∀ k, M88 k → k ≠ b_5 := (fun k hk e => by have := hM88 k hk; omega)
            have d88_3 : ∀ k, M88 k → k ≠ b_3 := (fun k hk e => by have := hM88 k hk; omega)
            have d88_6 : ∀ k, M88 k → k ≠ b_6 := (fun k hk e => by have := hM88 k hk; omega)
            refine RD.backW rfl (a49.mono fun k _ e => .inr (Nat.le_trans szD84 (o84.ge k e).1)) ?_
            refine RD.take 7 rfl (by kernel_rfl) (by kernel_rfl) (by kernel_rfl) (fun w' s' => .assign rfl) rfl rfl ?_
            refine RD.all [8] (by kernel_rfl) rfl (RDs.cons rfl ?_ (RDs.nil))
            refine RL.store sh43 rfl rfl rfl hb_5 (by exact Nat.le_of_ble_eq_true rfl) (by rfl) rfl (fun w23 z23 hb_5 a23 => ?_)
            have S := S.upd a23 ge_5
            have hb_3 := hb_3.upd a23 n_3__5
            have hb_6 := hb_6.upd a23 n_5__6.symm
            have szD := Nat.le_trans szD a23.size
            have hF88 := hF88.updD a23 d88_5
            have hb_5 : Has w23 b_5 ([.int .i64 0, .int .i64 0, .int .i64 0]) _ := hb_5.now (by kernel_rfl)
            refine RD.backW rfl (a23.mono fun k _ e => e ▸ (.inl (rfl))) ?_
            refine RD.done (by kernel_rfl) (RC.back ?_)
            refine RC.done (rs := [.tmp 4, .cell 5 43]) (vs := [_, _]) rfl rfl ⟨rfl, ⟨_, rfl, .inr ⟨[.int .i64 0, .int .i64 0, .int .i64 0], sh43, hb_5.row, rfl⟩⟩, trivial⟩ ?_
            -- end 4
            have he : heapM l o = (l.take n ++ ⟨o.a, o.b⟩ :: l.drop n, ⟨0, 0, 0⟩) := (by rw [heapM, if_neg n10, if_pos k22, if_neg n18, hwn])
            rw [he]
            exact ⟨S, _, _, M88, by rw [show (l.take n ++ (⟨o.a, o.b⟩ : It) :: l.drop n).length = l.length + 1 from by rw [List.length_append, List.length_cons, List.length_take, List.length_drop]; omega]; rfl, by rw [show (l.take n ++ (⟨o.a, o.b⟩ : It) :: l.drop n).length = l.length + 1 from by rw [List.length_append, List.length_cons, List.length_take, List.length_drop]; omega]; exact hc88, hF88, fun k hk => .inr (Nat.le_trans szS (hM88 k hk))⟩
        ·
          have n29 := h8
          refine RC.seq ?_
          refine RC.region rfl ?_
          refine RL.ev (.move rfl) rfl rfl ?_
          refine RL.ev (.len sl35 rfl) rfl rfl ?_
          refine RL.ev (.bin rfl rfl rfl) rfl rfl ?_
          refine RL.ev (.assign rfl) rfl rfl ?_
          refine RL.nil (RC.back ?_)
          refine RC.cond_dec rfl (fun h24 => ?_) (fun h24 => ?_)
          ·
            have k51 : l.length = 0 := (by omega)
            refine RC.seq ?_
            refine RC.region rfl ?_
            refine RL.ev (.move rfl) rfl rfl ?_
            refine RL.call rfl ok75 (c_none w_5) rfl rfl ?_
            rintro _ w25 ⟨rfl, s26⟩
            have S := S.trans s26
            have hb_3 := hb_3.sub s26
            have hb_5 := hb_5.sub s26
            refine RL.ev (.assign rfl) rfl rfl ?_
            refine RL.store sh43 rfl rfl rfl hb_5 (by exact Nat.le_of_ble_eq_true rfl) (by rfl) rfl (fun w27 z27 hb_5 a27 => ?_)
            have S := S.upd a27 ge_5
            have hb_3 := hb_3.upd a27 n_3__5
            have hb_5 : Has w27 b_5 ([.int .i64 3, .int .i64 0, .int .i64 0]) _ := hb_5.now (by kernel_rfl)
            refine RL.nil (RC.back ?_)
            refine RC.done (rs := [.tmp 4, .cell 5 43]) (vs := [_, _]) rfl rfl ⟨rfl, ⟨_, rfl, .inr ⟨[.int .i64 3, .int .i64 0, .int .i64 0], sh43, hb_5.row, rfl⟩⟩, trivial⟩ ?_
            -- end 5
            exact absurd k22 n29
          ·
            have n51 : 0 < l.length := (by omega)
            obtain ⟨y, hy⟩ := getSome (l := l) (i := 0) n51
            have hva := valAt_get hy
            refine RC.skip (RC.back ?_)
            refine RC.seq ?_
            refine RC.drawD (fun k => False) [10] w_5.heap.size 11 rfl rfl mxo (fun w28 s29 => ?_)
            have hNN : ∀ k, ((False) ∨ w_5.heap.size ≤ k) → w.heap.size ≤ k := fun k e => e.elim (fun e => e.elim) (fun e => Nat.le_trans S.size e)
            have ent_S := S.size
            have hN0 : ∀ k, w_5.heap.size ≤ k → w.heap.size ≤ k := fun k e => Nat.le_trans S.size e
            have ltD_b_3 := hb_3.lt
            have ltD_b_5 := hb_5.lt
            have szD := Nat.le_refl w_5.heap.size
            have S := S.trans s29
            have hb_3 := hb_3.sub s29
            have hb_5 := hb_5.sub s29
            have szD := Nat.le_trans szD s29.size
            refine RD.take 0 rfl (by kernel_rfl) (by kernel_rfl) (by kernel_rfl) (fun w' s' => .move rfl) rfl rfl ?_
            refine RD.take 1 rfl (by kernel_rfl) (by kernel_rfl) (by kernel_rfl) (fun w' s' => .indexS sl35 rfl rfl (by omega) (hl.is (i := 0) (by simp only [List.length_map, List.length_cons, List.length_nil]; omega))) rfl rfl ?_
            refine RD.take 2 rfl (by kernel_rfl) (by kernel_rfl) (by kernel_rfl) (fun w' s' => .fieldA fo82_0 rfl) rfl rfl ?_
            refine RD.take 3 rfl (by kernel_rfl) (by kernel_rfl) (by kernel_rfl) (fun w' s' => .load1 sh2 rfl ((hl.sub (S.agrN s' hNN)).cell (enc := It.cells) (i := 0) (j := 0) hy rfl)) rfl rfl ?_
            refine RD.take 4 rfl (by kernel_rfl) (by kernel_rfl) (by kernel_rfl) (fun w' s' => .move rfl) rfl rfl ?_
            refine RD.take 5 rfl (by kernel_rfl) (by kernel_rfl) (by kernel_rfl) (fun w' s' => .indexS sl35 rfl rfl (by omega) (hl.is (i := 0) (by simp only [List.length_map, List.length_cons, List.length_nil]; omega))) rfl rfl ?_
            refine RD.take 6 rfl (by kernel_rfl) (by kernel_rfl) (by kernel_rfl) (fun w' s' => .fieldA fo82_1 rfl) rfl rfl ?_
            refine RD.take 7 rfl (by kernel_rfl) (by kernel_rfl) (by kernel_rfl) (fun w' s' => .load1 sh2 rfl ((hl.sub (S.agrN s' hNN)).cell (enc := It.cells) (i := 0) (j := 1) hy rfl)) rfl rfl ?_
            refine RD.take 8 rfl (by kernel_rfl) (by kernel_rfl) (by kernel_rfl) (fun w' s' => .buildS ze43 pl43 rfl rfl) rfl rfl ?_
            refine RD.all [9] (by kernel_rfl) rfl (RDs.cons rfl ?_ (RDs.nil))
            refine RL.alloc ze43 rfl rfl (fun b_9 w_9 e_9 z_9 hb_9 s_9 => ?_)
            have fr_b_9 : w_5.heap.size ≤ b_9 := by rw [e_9]; exact szD
            have ge_9 := S.le e_9
            have n_3__9 := hb_3.ne e_9
            have n_5__9 := hb_5.ne e_9
            have S := S.trans s_9
            have hb_3 := hb_3.sub s_9
            have hb_5 := hb_5.sub s_9
            have szD := Nat.le_trans szD s_9.size
            refine RD.back s_9.agr ?_
            refine RD.all [10] (by kernel_rfl) rfl (RDs.cons rfl ?_ (RDs.nil))
            refine RL.store sh43 rfl rfl rfl hb_9 (by exact Nat.le_of_ble_eq_true rfl) (by rfl) rfl (fun w30 z30 hb_9 a30 => ?_)
            have S := S.upd a30 ge_9
            have hb_3 := hb_3.upd a30 n_3__9
            have hb_5 := hb_5.upd a30 n_5__9
            have szD := Nat.le_trans szD a30.size
            have hb_9 : Has w30 b_9 ([.int .i64 0, .int .i64 y.k, .int .i64 y.v]) _ := hb_9.now (by kernel_rfl)
            refine RD.backW rfl (a30.mono fun k _ e => e ▸ (.inr fr_b_9)) ?_
            refine RD.done (by kernel_rfl) (RC.back ?_)
            refine RC.seq ?_
            refine RC.seq ?_
            refine RC.region rfl ?_
            refine RL.ev (.field0 fo40_1 rfl) rfl rfl ?_
            refine RL.ev (.load1 sh3 rfl (hb_3.cell rfl)) rfl rfl ?_
            refine RL.ev (.bin rfl rfl rfl) rfl rfl ?_
            refine RL.nil (RC.back ?_)
            refine RC.cond_dec rfl (fun h31 => ?_) (fun h31 => ?_)
            ·
              have k68 := h31
              refine RC.region rfl ?_
              refine RL.ev (.move rfl) rfl rfl ?_
              refine RL.ev (.sliceLo sl35 rfl rfl (by omega)) rfl rfl ?_
              refine RL.ev (.assign rfl) rfl rfl ?_
              refine RL.nil (RC.back ?_)
              refine RC.seq ?_
              refine RC.drawD (fun k => k = b_5) [3] w30.heap.size 4 rfl rfl mxo (fun w32 s33 => ?_)
              have hNN : ∀ k, ((k = b_5) ∨ w30.heap.size ≤ k) → w.heap.size ≤ k := fun k e => e.elim (fun e => e ▸ ge_5) (fun e => Nat.le_trans S.size e)
              have ent_S := S.size
              have hN0 : ∀ k, w30.heap.size ≤ k → w.heap.size ≤ k := fun k e => Nat.le_trans S.size e
              have ltD_b_3 := hb_3.lt
              have ltD_b_5 := hb_5.lt
              have ltD_b_9 := hb_9.lt
              have szD := Nat.le_refl w30.heap.size
              have S := S.trans s33
              have hb_3 := hb_3.sub s33
              have hb_5 := hb_5.sub s33
              have hb_9 := hb_9.sub s33
              have szD := Nat.le_trans szD s33.size
              refine RD.take 0 rfl (by kernel_rfl) (by kernel_rfl) (by kernel_rfl) (fun w' s' => .move rfl) rfl rfl ?_
              refine RD.take 1 rfl (by kernel_rfl) (by kernel_rfl) (by kernel_rfl) (fun w' s' => .loadR ([.int .i64 0, .int .i64 y.k, .int .i64 y.v]) sh43 rfl (hb_9.step s' (fun e => e.elim (fun e => n_5__9.symm e) (fun e => Nat.not_le.2 ltD_b_9 e))).row rfl) rfl rfl ?_
              refine RD.take 2 rfl (by kernel_rfl) (by kernel_rfl) (by kernel_rfl) (fun w' s' => .assign rfl) rfl rfl ?_
              refine RD.all [3] (by kernel_rfl) rfl (RDs.cons rfl ?_ (RDs.nil))
              refine RL.store sh43 rfl rfl rfl hb_5 (by exact Nat.le_of_ble_eq_true rfl) (by rfl) rfl (fun w34 z34 hb_5 a34 => ?_)
              have S := S.upd a34 ge_5
              have hb_3 := hb_3.upd a34 n_3__5
              have hb_9 := hb_9.upd a34 n_5__9.symm
              have szD := Nat.le_trans szD a34.size
              have hb_5 : Has w34 b_5 ([.int .i64 0, .int .i64 y.k, .int .i64 y.v]) _ := hb_5.now (by kernel_rfl)
              refine RD.backW rfl (a34.mono fun k _ e => e ▸ (.inl (rfl))) ?_
              refine RD.done (by kernel_rfl) (RC.back ?_)
              refine RC.done (rs := [.tmp 4, .cell 5 43]) (vs := [_, _]) rfl rfl ⟨rfl, ⟨_, rfl, .inr ⟨[.int .i64 0, .int .i64 y.k, .int .i64 y.v], sh43, hb_5.row, rfl⟩⟩, trivial⟩ ?_
              -- end 6
              exact absurd k22 n29
            ·
              have n68 := h31
              refine RC.skip (RC.back ?_)
              refine RC.seq ?_
              refine RC.drawD (fun k => k = b_5) [3] w30.heap.size 4 rfl rfl mxo (fun w35 s36 => ?_)
              have hNN : ∀ k, ((k = b_5) ∨ w30.heap.size ≤ k) → w.heap.size ≤ k := fun k e => e.elim (fun e => e ▸ ge_5) (fun e => Nat.le_trans S.size e)
              have ent_S := S.size
              have hN0 : ∀ k, w30.heap.size ≤ k → w.heap.size ≤ k := fun k e => Nat.le_trans S.size e
              have ltD_b_3 := hb_3.lt
              have ltD_b_5 := hb_5.lt
              have ltD_b_9 := hb_9.lt
              have szD := Nat.le_refl w30.heap.size
              have S := S.trans s36
              have hb_3 := hb_3.sub s36
              have hb_5 := hb_5.sub s36
              have hb_9 := hb_9.sub s36
              have szD := Nat.le_trans szD s36.size
              refine RD.take 0 rfl (by kernel_rfl) (by kernel_rfl) (by kernel_rfl) (fun w' s' => .move rfl) rfl rfl ?_
              refine RD.take 1 rfl (by kernel_rfl) (by kernel_rfl) (by kernel_rfl) (fun w' s' => .loadR ([.int .i64 0, .int .i64 y.k, .int .i64 y.v]) sh43 rfl (hb_9.step s' (fun e => e.elim (fun e => n_5__9.symm e) (fun e => Nat.not_le.2 ltD_b_9 e))).row rfl) rfl rfl ?_
              refine RD.take 2 rfl (by kernel_rfl) (by kernel_rfl) (by kernel_rfl) (fun w' s' => .assign rfl) rfl rfl ?_
              refine RD.all [3] (by kernel_rfl) rfl (RDs.cons rfl ?_ (RDs.nil))
              refine RL.store sh43 rfl rfl rfl hb_5 (by exact Nat.le_of_ble_eq_true rfl) (by rfl) rfl (fun w37 z37 hb_5 a37 => ?_)
              have S := S.upd a37 ge_5
              have hb_3 := hb_3.upd a37 n_3__5
              have hb_9 := hb_9.upd a37 n_5__9.symm
              have szD := Nat.le_trans szD a37.size
              have hb_5 : Has w37 b_5 ([.int .i64 0, .int .i64 y.k, .int .i64 y.v]) _ := hb_5.now (by kernel_rfl)
              refine RD.backW rfl (a37.mono fun k _ e => e ▸ (.inl (rfl))) ?_
              refine RD.done (by kernel_rfl) (RC.back ?_)
              refine RC.done (rs := [.tmp 4, .cell 5 43]) (vs := [_, _]) rfl rfl ⟨rfl, ⟨_, rfl, .inr ⟨[.int .i64 0, .int .i64 y.k, .int .i64 y.v], sh43, hb_5.row, rfl⟩⟩, trivial⟩ ?_
              -- end 7
              exact absurd k22 n29
    ·
      have n22 := h3
      refine RL.off rfl rfl ?_
      refine RL.off rfl rfl ?_
      refine RL.off rfl rfl ?_
      refine RL.ev (.pick_f rfl rfl) rfl rfl ?_
      refine RL.ev (.assign rfl) rfl rfl ?_
      refine RL.nil (RC.back ?_)
      refine RC.cond_f rfl ?_
      refine RC.seq ?_
      refine RC.region rfl ?_
      refine RL.ev (.field0 fo40_1 rfl) rfl rfl ?_
      refine RL.ev (.load1 sh3 rfl (hb_3.cell rfl)) rfl rfl ?_
      refine RL.ev (.bin rfl rfl rfl) rfl rfl ?_
      refine RL.ev (.assign rfl) rfl rfl ?_
      refine RL.nil (RC.back ?_)
      refine RC.cond_dec rfl (fun h38 => ?_) (fun h38 => ?_)
      ·
        have k29 := h38
        refine RC.seq ?_
        refine RC.region rfl ?_
        refine RL.ev (.field0 fo40_2 rfl) rfl rfl ?_
        refine RL.ev (.load1 sh2 rfl (hb_3.cell rfl)) rfl rfl ?_
        refine RL.ev (.field0 fo40_3 rfl) rfl rfl ?_
        refine RL.ev (.load1 sh2 rfl (hb_3.cell rfl)) rfl rfl ?_
        refine RL.ev (.buildS ze82 pl82 rfl rfl) rfl rfl ?_
        refine RL.alloc ze82 rfl rfl (fun b_6 w_6 e_6 z_6 hb_6 s_6 => ?_)
        have ge_6 := S.le e_6
        have n_3__6 := hb_3.ne e_6
        have n_5__6 := hb_5.ne e_6
        have S := S.trans s_6
        have hb_3 := hb_3.sub s_6
        have hb_5 := hb_5.sub s_6
        refine RL.store sh82 rfl rfl rfl hb_6 (by exact Nat.le_of_ble_eq_true rfl) (by rfl) rfl (fun w39 z39 hb_6 a39 => ?_)
        have S := S.upd a39 ge_6
        have hb_3 := hb_3.upd a39 n_3__6
        have hb_5 := hb_5.upd a39 n_5__6
        have hb_6 : Has w39 b_6 ([.int .i64 o.a, .int .i64 o.b]) _ := hb_6.now (by kernel_rfl)
        refine RL.nil (RC.back ?_)
        refine RC.seq ?_
        refine RC.region rfl ?_
        refine RL.ev (.move rfl) rfl rfl ?_
        refine RL.ev (.loadR ([.int .i64 o.a, .int .i64 o.b]) sh82 rfl hb_6.row rfl) rfl rfl ?_
        refine RL.call rfl ok81 (c_bsf2 56 ok56 ⟨o.a, o.b⟩ (fun x => cmpIt x ⟨o.a, o.b⟩) (fun x w' => c_less x ⟨o.a, o.b⟩ w') l (fun i j x y hij hx hy h => by rw [cmpIt_neg] at h ⊢; obtain ⟨d, rfl⟩ := Nat.le.dest hij; have q := hs.le d i x y hx hy; unfold lessP at *; omega) a c _ rfl w39 (hl.sub S) (by omega)) rfl rfl ?_
        rintro _ w40 ⟨s41, n, hn1, rfl, hn2, hn3⟩
        have S := S.trans s41
        have hb_3 := hb_3.sub s41
        have hb_5 := hb_5.sub s41
        have hb_6 := hb_6.sub s41
        have hwn : whN l ⟨o.a, o.b⟩ = n := whN_of hn1 (fun k z h1 h2 => cmpIt_neg.1 (hn2 k z h1 h2)) (fun z hz h => hn3 n z (Nat.le_refl _) hz (cmpIt_neg.2 h))
        refine RL.ev (.move rfl) rfl rfl ?_
        refine RL.ev (.extract rfl rfl) rfl rfl ?_
        refine RL.ev (.extract rfl rfl) rfl rfl ?_
        refine RL.ev (.assign rfl) rfl rfl ?_
        refine RL.ev (.assign rfl) rfl rfl ?_
        refine RL.nil (RC.back ?_)
        refine RC.seq ?_
        refine RC.drawD (fun k => k = b_5) [5, 8] w40.heap.size 9 rfl rfl mxo (fun w42 s43 => ?_)
        have hNN : ∀ k, ((k = b_5) ∨ w40.heap.size ≤ k) → w.heap.size ≤ k := fun k e => e.elim (fun e => e ▸ ge_5) (fun e => Nat.le_trans S.size e)
        have ent_S := S.size
        have hN0 : ∀ k, w40.heap.size ≤ k → w.heap.size ≤ k := fun k e => Nat.le_trans S.size e
        have ltD_b_3 := hb_3.lt
        have ltD_b_5 := hb_5.lt
        have ltD_b_6 := hb_6.lt
        have szD := Nat.le_refl w40.heap.size
        have S := S.trans s43
        have hb_3 := hb_3.sub s43
        have hb_5 := hb_5.sub s43
        have hb_6 := hb_6.sub s43
        have szD := Nat.le_trans szD s43.size
        refine RD.take 0 rfl (by kernel_rfl) (by kernel_rfl) (by kernel_rfl) (fun w' s' => .move rfl) rfl rfl ?_
        refine RD.take 2 rfl (by kernel_rfl) (by kernel_rfl) (by kernel_rfl) (fun w' s' => .move rfl) rfl rfl ?_
        refine RD.take 3 rfl (by kernel_rfl) (by kernel_rfl) (by kernel_rfl) (fun w' s' => .loadR ([.int .i64 o.a, .int .i64 o.b]) sh82 rfl (hb_6.step s' (fun e => e.elim (fun e => n_5__6.symm e) (fun e => Nat.not_le.2 ltD_b_6 e))).row rfl) rfl rfl ?_
        refine RD.take 6 rfl (by kernel_rfl) (by kernel_rfl) (by kernel_rfl) (fun w' s' => .buildS ze43 pl43 rfl rfl) rfl rfl ?_
        refine RD.all [1, 4] (by kernel_rfl) rfl (RDs.cons rfl ?_ (RDs.cons rfl ?_ (RDs.nil)))
        ·
          refine RL.call rfl ok77 (c_clone l a c _ rfl w42 (hl.sub S) (by omega)) rfl rfl ?_
          rintro _ w44 ⟨a84, c84, rfl, o84, s45⟩
          have lt3 := hb_3.lt
          have lt5 := hb_5.lt
          have lt6 := hb_6.lt
          have szS := S.size
          have szD84 := szD
          have szB84 := s45.size
          have S := S.trans s45
          have hb_3 := hb_3.sub s45
          have hb_5 := hb_5.sub s45
          have hb_6 := hb_6.sub s45
          have szD := Nat.le_trans szD s45.size
          have d84_3 : ∀ k, ob (.slice a84 l.length c84) = some k → k ≠ b_3 := (fun k hk e => by have := (o84.ge k hk).1; omega)
          have d84_5 : ∀ k, ob (.slice a84 l.length c84) = some k → k ≠ b_5 := (fun k hk e => by have := (o84.ge k hk).1; omega)
          have d84_6 : ∀ k, ob (.slice a84 l.length c84) = some k → k ≠ b_6 := (fun k hk e => by have := (o84.ge k hk).1; omega)
          have o84w := o84.whole
          refine RD.back s45.agr ?_
          refine RD.all [4] (by kernel_rfl) rfl (RDs.cons rfl ?_ (RDs.nil))
          refine RL.buildSlice1 sl35 _ ze82 rfl rfl rfl rfl rfl rfl rfl (fun b_48 w_48 e_48 z_48 hb_48 s_48 => ?_)
          have fr_b_48 : w40.heap.size ≤ b_48 := by rw [e_48]; exact szD
          have ge_48 := S.le e_48
          have n_3__48 := hb_3.ne e_48
          have n_5__48 := hb_5.ne e_48
          have n_6__48 := hb_6.ne e_48
          have d_o84_b_48 := o84.neNew e_48
          have S := S.trans s_48
          have hb_3 := hb_3.sub s_48
          have hb_5 := hb_5.sub s_48
          have hb_6 := hb_6.sub s_48
          have szD := Nat.le_trans szD s_48.size
          have szB84 := Nat.le_trans szB84 s_48.size
          have o84 := o84.sub s_48
          refine RD.back s_48.agr ?_
          refine RD.all [5] (by kernel_rfl) rfl (RDs.cons rfl ?_ (RDs.nil))
          refine RL.call rfl ok79 (c_insert l ⟨o.a, o.b⟩ _ a84 c84 b_48 n w_48 o84 szB84 (by rcases o84w with ⟨q, _⟩ | ⟨g, ex, q, _, _, _, q2⟩; injection q with _ _ q; omega; injection q with _ _ q; rw [q]; exact Nat.le_trans q2 (by decide)) (by omega) hn1 hb_48 (by first | exact d_o84_b_48 | exact (fun k hk e => by have := (o84.ge k hk).1; omega))) rfl rfl ?_
          rintro _ w46 ⟨a88', c88', M88, rfl, hc88, hF88, hM88, a49⟩
          have S := S.agrN a49 (fun k e => Nat.le_trans szS (o84.ge k e).1)
          have hb_3 := hb_3.step a49 (fun e => d84_3 _ e rfl)
          have hb_5 := hb_5.step a49 (fun e => d84_5 _ e rfl)
          have hb_6 := hb_6.step a49 (fun e => d84_6 _ e rfl)
          have szD := Nat.le_trans szD a49.size
          have d88_5 : ∀ k, M88 k → k ≠ b_5 := (fun k hk e => by have := hM88 k hk; omega)
          have d88_3 : ∀ k, M88 k → k ≠ b_3 := (fun k hk e => by have := hM88 k hk; omega)
          have d88_6 : ∀ k, M88 k → k ≠ b_6 := (fun k hk e => by have := hM88 k hk; omega)
          refine RD.backW rfl (a49.mono fun k _ e => .inr (Nat.le_trans szD84 (o84.ge k e).1)) ?_
          refine RD.take 7 rfl (by kernel_rfl) (by kernel_rfl) (by kernel_rfl) (fun w' s' => .assign rfl) rfl rfl ?_
          refine RD.all [8] (by kernel_rfl) rfl (RDs.cons rfl ?_ (RDs.nil))
          refine RL.store sh43 rfl rfl rfl hb_5 (by exact Nat.le_of_ble_eq_true rfl) (by rfl) rfl (fun w48 z48 hb_5 a48 => ?_)
          have S := S.upd a48 ge_5
          have hb_3 := hb_3.upd a48 n_3__5
          have hb_6 := hb_6.upd a48 n_5__6.symm
          have szD := Nat.le_trans szD a48.size
          have hF88 := hF88.updD a48 d88_5
          have hb_5 : Has w48 b_5 ([.int .i64 0, .int .i64 0, .int .i64 0]) _ := hb_5.now (by kernel_rfl)
          refine RD.backW rfl (a48.mono fun k _ e => e ▸ (.inl (rfl))) ?_
          refine RD.done (by kernel_rfl) (RC.back ?_)
          refine RC.done (rs := [.tmp 4, .cell 5 43]) (vs := [_, _]) rfl rfl ⟨rfl, ⟨_, rfl, .inr ⟨[.int .i64 0, .int .i64 0, .int .i64 0], sh43, hb_5.row, rfl⟩⟩, trivial⟩ ?_
          -- end 8
          exact absurd k29 n22
        ·
          refine RL.buildSlice1 sl35 _ ze82 rfl rfl rfl rfl rfl rfl rfl (fun b_48 w_48 e_48 z_48 hb_48 s_48 => ?_)
          have fr_b_48 : w40.heap.size ≤ b_48 := by rw [e_48]; exact szD
          have ge_48 := S.le e_48
          have n_3__48 := hb_3.ne e_48
          have n_5__48 := hb_5.ne e_48
          have n_6__48 := hb_6.ne e_48
          have S := S.trans s_48
          have hb_3 := hb_3.sub s_48
          have hb_5 := hb_5.sub s_48
          have hb_6 := hb_6.sub s_48
          have szD := Nat.le_trans szD s_48.size
          refine RD.back s_48.agr ?_
          refine RD.all [1] (by kernel_rfl) rfl (RDs.cons rfl ?_ (RDs.nil))
          refine RL.call rfl ok77 (c_clone l a c _ rfl w_48 (hl.sub S) (by omega)) rfl rfl ?_
          rintro _ w49 ⟨a84, c84, rfl, o84, s50⟩
          have lt3 := hb_3.lt
          have lt5 := hb_5.lt
          have lt6 := hb_6.lt
          have szS := S.size
          have szD84 := szD
          have szB84 := s50.size
          have S := S.trans s50
          have hb_3 := hb_3.sub s50
          have hb_5 := hb_5.sub s50
          have hb_6 := hb_6.sub s50
          have szD := Nat.le_trans szD s50.size
          have hb_48 := hb_48.sub s50
          have d84_3 : ∀ k, ob (.slice a84 l.length c84) = some k → k ≠ b_3 := (fun k hk e => by have := (o84.ge k hk).1; omega)
          have d84_5 : ∀ k, ob (.slice a84 l.length c84) = some k → k ≠ b_5 := (fun k hk e => by have := (o84.ge k hk).1; omega)
          have d84_6 : ∀ k, ob (.slice a84 l.length c84) = some k → k ≠ b_6 := (fun k hk e => by have := (o84.ge k hk).1; omega)
          have o84w := o84.whole
          refine RD.back s50.agr ?_
          refine RD.all [5] (by kernel_rfl) rfl (RDs.cons rfl ?_ (RDs.nil))
          refine RL.call rfl ok79 (c_insert l ⟨o.a, o.b⟩ _ a84 c84 b_48 n w49 o84 szB84 (by rcases o84w with ⟨q, _⟩ | ⟨g, ex, q, _, _, _, q2⟩; injection q with _ _ q; omega; injection q with _ _ q; rw [q]; exact Nat.le_trans q2 (by decide)) (by omega) hn1 hb_48 (by first | exact d_o84_b_48 | exact (fun k hk e => by have := (o84.ge k hk).1; omega))) rfl rfl ?_
          rintro _ w51 ⟨a88', c88', M88, rfl, hc88, hF88, hM88, a49⟩
          have S := S.agrN a49 (fun k e => Nat.le_trans szS (o84.ge k e).1)
          have hb_3 := hb_3.step a49 (fun e => d84_3 _ e rfl)
          have hb_5 := hb_5.step a49 (fun e => d84_5 _ e rfl)
          have hb_6 := hb_6.step a49 (fun e => d84_6 _ e rfl)
          have szD := Nat.le_trans szD a49.size
          have d88_5 : ∀ k, M88 k → k ≠ b_5 := (fun k hk e => by have := hM88 k hk; omega)
          have d88_3 : ∀ k, M88 k → k ≠ b_3 := (fun k hk e => by have := hM88 k hk; omega)
          have d88_6 : ∀ k, M88 k → k ≠ b_6 := (fun k hk e => by have := hM88 k hk; omega)
          refine RD.backW rfl (a49.mono fun k _ e => .inr (Nat.le_trans szD84 (o84.ge k e).1)) ?_
          refine RD.take 7 rfl (by kernel_rfl) (by kernel_rfl) (by kernel_rfl) (fun w' s' => .assign rfl) rfl rfl ?_
          refine RD.all [8] (by kernel_rfl) rfl (RDs.cons rfl ?_ (RDs.nil))
          refine RL.store sh43 rfl rfl rfl hb_5 (by exact Nat.le_of_ble_eq_true rfl) (by rfl) rfl (fun w53 z53 hb_5 a53 => ?_)
          have S := S.upd a53 ge_5
          have hb_3 := hb_3.upd a53 n_3__5
          have hb_6 := hb_6.upd a53 n_5__6.symm
          have szD := Nat.le_trans szD a53.size
          have hF88 := hF88.updD a53 d88_5
          have hb_5 : Has w53 b_5 ([.int .i64 0, .int .i64 0, .int .i64 0]) _ := hb_5.now (by kernel_rfl)
          refine RD.backW rfl (a53.mono fun k _ e => e ▸ (.inl (rfl))) ?_
          refine RD.done (by kernel_rfl) (RC.back ?_)
          refine RC.done (rs := [.tmp 4, .cell 5 43]) (vs := [_, _]) rfl rfl ⟨rfl, ⟨_, rfl, .inr ⟨[.int .i64 0, .int .i64 0, .int .i64 0], sh43, hb_5.row, rfl⟩⟩, trivial⟩ ?_
          -- end 9
          exact absurd k29 n22
      ·
        have n29 := h38
        refine RC.seq ?_
        refine RC.region rfl ?_
        refine RL.ev (.move rfl) rfl rfl ?_
        refine RL.ev (.len sl35 rfl) rfl rfl ?_
        refine RL.ev (.bin rfl rfl rfl) rfl rfl ?_
        refine RL.ev (.assign rfl) rfl rfl ?_
        refine RL.nil (RC.back ?_)
        refine RC.cond_dec rfl (fun h54 => ?_) (fun h54 => ?_)
        ·
          have k51 : l.length = 0 := (by omega)
          refine RC.seq ?_
          refine RC.region rfl ?_
          refine RL.ev (.move rfl) rfl rfl ?_
          refine RL.call rfl ok75 (c_none w_5) rfl rfl ?_
          rintro _ w55 ⟨rfl, s56⟩
          have S := S.trans s56
          have hb_3 := hb_3.sub s56
          have hb_5 := hb_5.sub s56
          refine RL.ev (.assign rfl) rfl rfl ?_
          refine RL.store sh43 rfl rfl rfl hb_5 (by exact Nat.le_of_ble_eq_true rfl) (by rfl) rfl (fun w57 z57 hb_5 a57 => ?_)
          have S := S.upd a57 ge_5
          have hb_3 := hb_3.upd a57 n_3__5
          have hb_5 : Has w57 b_5 ([.int .i64 3, .int .i64 0, .int .i64 0]) _ := hb_5.now (by kernel_rfl)
          refine RL.nil (RC.back ?_)
          refine RC.done (rs := [.tmp 4, .cell 5 43]) (vs := [_, _]) rfl rfl ⟨rfl, ⟨_, rfl, .inr ⟨[.int .i64 3, .int .i64 0, .int .i64 0], sh43, hb_5.row, rfl⟩⟩, trivial⟩ ?_
          -- end 10
          have he : heapM l o = (l, ⟨3, 0, 0⟩) := (by rw [heapM, if_neg n10, if_neg n22, if_pos k51])
          rw [he]
          exact ⟨S, _, _, M, rfl, hc, hF.sub S, Up.refl _ _⟩
        ·
          have n51 : 0 < l.length := (by omega)
          obtain ⟨y, hy⟩ := getSome (l := l) (i := 0) n51
          have hva := valAt_get hy
          refine RC.skip (RC.back ?_)
          refine RC.seq ?_
          refine RC.drawD (fun k => False) [10] w_5.heap.size 11 rfl rfl mxo (fun w58 s59 => ?_)
          have hNN : ∀ k, ((False) ∨ w_5.heap.size ≤ k) → w.heap.size ≤ k := fun k e => e.elim (fun e => e.elim) (fun e => Nat.le_trans S.size e)
          have ent_S := S.size
          have hN0 : ∀ k, w_5.heap.size ≤ k → w.heap.size ≤ k := fun k e => Nat.le_trans S.size e
          have ltD_b_3 := hb_3.lt
          have ltD_b_5 := hb_5.lt
          have szD := Nat.le_refl w_5.heap.size
          have S := S.trans s59
          have hb_3 := hb_3.sub s59
          have hb_5 := hb_5.sub s59
          have szD := Nat.le_trans szD s59.size
          refine RD.take 0 rfl (by kernel_rfl) (by kernel_rfl) (by kernel_rfl) (fun w' s' => .move rfl) rfl rfl ?_
          refine RD.take 1 rfl (by kernel_rfl) (by kernel_rfl) (by kernel_rfl) (fun w' s' => .indexS sl35 rfl rfl (by omega) (hl.is (i := 0) (by simp only [List.length_map, List.length_cons, List.length_nil]; omega))) rfl rfl ?_
          refine RD.take 2 rfl (by kernel_rfl) (by kernel_rfl) (by kernel_rfl) (fun w' s' => .fieldA fo82_0 rfl) rfl rfl ?_
          refine RD.take 3 rfl (by kernel_rfl) (by kernel_rfl) (by kernel_rfl) (fun w' s' => .load1 sh2 rfl ((hl.sub (S.agrN s' hNN)).cell (enc := It.cells) (i := 0) (j := 0) hy rfl)) rfl rfl ?_
          refine RD.take 4 rfl (by kernel_rfl) (by kernel_rfl) (by kernel_rfl) (fun w' s' => .move rfl) rfl rfl ?_
          refine RD.take 5 rfl (by kernel_rfl) (by kernel_rfl) (by kernel_rfl) (fun w' s' => .indexS sl35 rfl rfl (by omega) (hl.is (i := 0) (by simp only [List.length_map, List.length_cons, List.length_nil]; omega))) rfl rfl ?_
          refine RD.take 6 rfl (by kernel_rfl) (by kernel_rfl) (by kernel_rfl) (fun w' s' => .fieldA fo82_1 rfl) rfl rfl ?_
          refine RD.take 7 rfl (by kernel_rfl) (by kernel_rfl) (by kernel_rfl) (fun w' s' => .load1 sh2 rfl ((hl.sub (S.agrN s' hNN)).cell (enc := It.cells) (i := 0) (j := 1) hy rfl)) rfl rfl ?_
          refine RD.take 8 rfl (by kernel_rfl) (by kernel_rfl) (by kernel_rfl) (fun w' s' => .buildS ze43 pl43 rfl rfl) rfl rfl ?_
          refine RD.all [9] (by kernel_rfl) rfl (RDs.cons rfl ?_ (RDs.nil))
          refine RL.alloc ze43 rfl rfl (fun b_9 w_9 e_9 z_9 hb_9 s_9 => ?_)
          have fr_b_9 : w_5.heap.size ≤ b_9 := by rw [e_9]; exact szD
          have ge_9 := S.le e_9
          have n_3__9 := hb_3.ne e_9
          have n_5__9 := hb_5.ne e_9
          have S := S.trans s_9
          have hb_3 := hb_3.sub s_9
          have hb_5 := hb_5.sub s_9
          have szD := Nat.le_trans szD s_9.size
          refine RD.back s_9.agr ?_
          refine RD.all [10] (by kernel_rfl) rfl (RDs.cons rfl ?_ (RDs.nil))
          refine RL.store sh43 rfl rfl rfl hb_9 (by exact Nat.le_of_ble_eq_true rfl) (by rfl) rfl (fun w60 z60 hb_9 a60 => ?_)
          have S := S.upd a60 ge_9
          have hb_3 := hb_3.upd a60 n_3__9
          have hb_5 := hb_5.upd a60 n_5__9
          have szD := Nat.le_trans szD a60.size
          have hb_9 : Has w60 b_9 ([.int .i64 0, .int .i64 y.k, .int .i64 y.v]) _ := hb_9.now (by kernel_rfl)
          refine RD.backW rfl (a60.mono fun k _ e => e ▸ (.inr fr_b_9)) ?_
          refine RD.done (by kernel_rfl) (RC.back ?_)
          refine RC.seq ?_
          refine RC.seq ?_
          refine RC.region rfl ?_
          refine RL.ev (.field0 fo40_1 rfl) rfl rfl ?_
          refine RL.ev (.load1 sh3 rfl (hb_3.cell rfl)) rfl rfl ?_
          refine RL.ev (.bin rfl rfl rfl) rfl rfl ?_
          refine RL.nil (RC.back ?_)
          refine RC.cond_dec rfl (fun h61 => ?_) (fun h61 => ?_)
          ·
            have k68 := h61
            refine RC.region rfl ?_
            refine RL.ev (.move rfl) rfl rfl ?_
            refine RL.ev (.sliceLo sl35 rfl rfl (by omega)) rfl rfl ?_
            refine RL.ev (.assign rfl) rfl rfl ?_
            refine RL.nil (RC.back ?_)
            refine RC.seq ?_
            refine RC.drawD (fun k => k = b_5) [3] w60.heap.size 4 rfl rfl mxo (fun w62 s63 => ?_)
            have hNN : ∀ k, ((k = b_5) ∨ w60.heap.size ≤ k) → w.heap.size ≤ k := fun k e => e.elim (fun e => e ▸ ge_5) (fun e => Nat.le_trans S.size e)
            have ent_S := S.size
            have hN0 : ∀ k, w60.heap.size ≤ k → w.heap.size ≤ k := fun k e => Nat.le_trans S.size e
            have ltD_b_3 := hb_3.lt
            have ltD_b_5 := hb_5.lt
            have ltD_b_9 := hb_9.lt
            have szD := Nat.le_refl w60.heap.size
            have S := S.trans s63
            have hb_3 := hb_3.sub s63
            have hb_5 := hb_5.sub s63
            have hb_9 := hb_9.sub s63
            have szD := Nat.le_trans szD s63.size
            refine RD.take 0 rfl (by kernel_rfl) (by kernel_rfl) (by kernel_rfl) (fun w' s' => .move rfl) rfl rfl ?_
            refine RD.take 1 rfl (by kernel_rfl) (by kernel_rfl) (by kernel_rfl) (fun w' s' => .loadR ([.int .i64 0, .int .i64 y.k, .int .i64 y.v]) sh43 rfl (hb_9.step s' (fun e => e.elim (fun e => n_5__9.symm e) (fun e => Nat.not_le.2 ltD_b_9 e))).row rfl) rfl rfl ?_
            refine RD.take 2 rfl (by kernel_rfl) (by kernel_rfl) (by kernel_rfl) (fun w' s' => .assign rfl) rfl rfl ?_
            refine RD.all [3] (by kernel_rfl) rfl (RDs.cons rfl ?_ (RDs.nil))
            refine RL.store sh43 rfl rfl rfl hb_5 (by exact Nat.le_of_ble_eq_true rfl) (by rfl) rfl (fun w64 z64 hb_5 a64 => ?_)
            have S := S.upd a64 ge_5
            have hb_3 := hb_3.upd a64 n_3__5
            have hb_9 := hb_9.upd a64 n_5__9.symm
            have szD := Nat.le_trans szD a64.size
            have hb_5 : Has w64 b_5 ([.int .i64 0, .int .i64 y.k, .int .i64 y.v]) _ := hb_5.now (by kernel_rfl)
            refine RD.backW rfl (a64.mono fun k _ e => e ▸ (.inl (rfl))) ?_
            refine RD.done (by kernel_rfl) (RC.back ?_)
            refine RC.done (rs := [.tmp 4, .cell 5 43]) (vs := [_, _]) rfl rfl ⟨rfl, ⟨_, rfl, .inr ⟨[.int .i64 0, .int .i64 y.k, .int .i64 y.v], sh43, hb_5.row, rfl⟩⟩, trivial⟩ ?_
            -- end 11
            have he : heapM l o = (l.drop 1, ⟨0, y.k, y.v⟩) := (by rw [heapM, if_neg n10, if_neg n22, if_neg (by omega), if_pos k68, hva])
            rw [he]
            exact ⟨S, _, _, M, by rw [List.length_drop]; rfl, by rw [List.length_drop]; show _ ≤ c - 1; omega, (hF.sub S).imp (fun u h => slDropM h 1 hc), Up.refl _ _⟩
          ·
            have n68 := h61
            refine RC.skip (RC.back ?_)
            refine RC.seq ?_
            refine RC.drawD (fun k => k = b_5) [3] w60.heap.size 4 rfl rfl mxo (fun w65 s66 => ?_)
            have hNN : ∀ k, ((k = b_5) ∨ w60.heap.size ≤ k) → w.heap.size ≤ k := fun k e => e.elim (fun e => e ▸ ge_5) (fun e => Nat.le_trans S.size e)
            have ent_S := S.size
            have hN0 : ∀ k, w60.heap.size ≤ k → w.heap.size ≤ k := fun k e => Nat.le_trans S.size e
            have ltD_b_3 := hb_3.lt
            have ltD_b_5 := hb_5.lt
            have ltD_b_9 := hb_9.lt
            have szD := Nat.le_refl w60.heap.size
            have S := S.trans s66
            have hb_3 := hb_3.sub s66
            have hb_5 := hb_5.sub s66
            have hb_9 := hb_9.sub s66
            have szD := Nat.le_trans szD s66.size
            refine RD.take 0 rfl (by kernel_rfl) (by kernel_rfl) (by kernel_rfl) (fun w' s' => .move rfl) rfl rfl ?_
            refine RD.take 1 rfl (by kernel_rfl) (by kernel_rfl) (by kernel_rfl) (fun w' s' => .loadR ([.int .i64 0, .int .i64 y.k, .int .i64 y.v]) sh43 rfl (hb_9.step s' (fun e => e.elim (fun e => n_5__9.symm e) (fun e => Nat.not_le.2 ltD_b_9 e))).row rfl) rfl rfl ?_
            refine RD.take 2 rfl (by kernel_rfl) (by kernel_rfl) (by kernel_rfl) (fun w' s' => .assign rfl) rfl rfl ?_
            refine RD.all [3] (by kernel_rfl) rfl (RDs.cons rfl ?_ (RDs.nil))
            refine RL.store sh43 rfl rfl rfl hb_5 (by exact Nat.le_of_ble_eq_true rfl) (by rfl) rfl (fun w67 z67 hb_5 a67 => ?_)
            have S := S.upd a67 ge_5
            have hb_3 := hb_3.upd a67 n_3__5
            have hb_9 := hb_9.upd a67 n_5__9.symm
            have szD := Nat.le_trans szD a67.size
            have hb_5 : Has w67 b_5 ([.int .i64 0, .int .i64 y.k, .int .i64 y.v]) _ := hb_5.now (by kernel_rfl)
            refine RD.backW rfl (a67.mono fun k _ e => e ▸ (.inl (rfl))) ?_
            refine RD.done (by kernel_rfl) (RC.back ?_)
            refine RC.done (rs := [.tmp 4, .cell 5 43]) (vs := [_, _]) rfl rfl ⟨rfl, ⟨_, rfl, .inr ⟨[.int .i64 0, .int .i64 y.k, .int .i64 y.v], sh43, hb_5.row, rfl⟩⟩, trivial⟩ ?_
            -- end 12
            have he : heapM l o = (l, ⟨0, y.k, y.v⟩) := (by rw [heapM, if_neg n10, if_neg n22, if_neg (by omega), if_neg n68, hva])
            rw [he]
            exact ⟨S, _, _, M, rfl, hc, hF.sub S, Up.refl _ _⟩
end Go.Proofs.Ytlhnnleaiinjaaa
set_option linter.unusedVariables false
set_option linter.unusedSimpArgs false
namespace Go.Proofs.Ytlhnnleaiinjaaa
open Go Go.XL
/-- a reference's answer -/
def AnsR (M : Nat → Prop) (w w' : World) (q : List It × ResT) (u : Value) : Prop := Sub w w' ∧ ∃ a' c' M', u = .agg #[.slice a' q.1.length c', .int .i64 q.2.e, .int .i64 q.2.a, .int .i64 q.2.b] ∧ q.1.length ≤ c' ∧ Ft M' (fun u => Sl u a' 2 (q.1.map It.cells)) w' ∧ Up M w M'
theorem c_with (l : List It) (x : It) (a : Option Addr) (c m : Nat) (hm : m = l.length) (hc : l.length ≤ c) (w : World) (hl : Sl w a 2 (l.map It.cells)) (hb : l.length ≤ 1000000) :
    FC Try.prog 45 [.slice a m c, x.val] w (fun u w' => Sub w w' ∧ ∃ a' c', u = .slice a' (l.length + 1) c' ∧ l.length + 1 ≤ c' ∧ Ows w.heap.size w' 82 2 (.slice a' (l.length + 1) c') ((l.take (whN l x) ++ x :: l.drop (whN l x)).map It.cells)) := by
  subst hm
  refine FC.intro Try.func45 rfl Try.ntmps45 rfl ?_
  have S := Sub.refl w
  refine RC.seq ?_
  refine RC.region rfl ?_
  refine RL.box rfl rfl rfl (fun b_3 w_3 e_3 z_3 hb_3 s_3 => ?_)
  have ge_3 := S.le e_3
  have S := S.trans s_3
  have hb_3 : Has w_3 b_3 ([.int .i64 x.k, .int .i64 x.v]) _ := hb_3
  refine RL.ev (.assign rfl) rfl rfl ?_
  refine RL.nil (RC.back ?_)
  refine RC.seq ?_
  refine RC.region rfl ?_
  refine RL.ev (.assign rfl) rfl rfl ?_
  refine RL.nil (RC.back ?_)
  refine RC.seq ?_
  refine RC.block ?_
  refine RC.loop (α := Nat) (fun i => [(0, .slice a l.length c), (3, .pointer (some ⟨b_3, 0, none⟩)), (5, .int .i64 (i : Int))]) (fun i w1 => (i ≤ l.length ∧ ∀ k z, k < i → l[k]? = some z → lessP z x) ∧ Has w1 b_3 [.int .i64 x.k, .int .i64 x.v] 82 ∧ Sub w w1) (fun i => l.length - i) 0 (keep_of (by repeat (first | exact trivial | refine And.intro rfl ?_))) (⟨⟨Nat.zero_le _, fun k z h => absurd h (Nat.not_lt_zero _)⟩, hb_3, S⟩) (fun i w1 hJ => ?_)
  obtain ⟨⟨hi, hp⟩, hb_3, S⟩ := hJ; have htl : (l.take i).length ≤ l.length := (by rw [List.length_take]; omega); have hdl : (l.drop i).length ≤ l.length := (by rw [List.length_drop]; omega)
  refine RC.seq ?_
  refine RC.seq ?_
  refine RC.draw rfl mxo (by kernel_rfl) ?_
  refine RQ.ev (.move rfl) rfl rfl ?_
  refine RQ.ev (.move rfl) rfl rfl ?_
  refine RQ.ev (.len sl35 rfl) rfl rfl ?_
  refine RQ.ev (.bin rfl rfl rfl) rfl rfl ?_
  refine RQ.ev (.move rfl) rfl rfl ?_
  refine RQ.split 11 rfl (fun h2 => ?_) (fun h2 => ?_)
  ·
    have h11 : i < l.length := (by omega)
    obtain ⟨y, hy⟩ := getSome (l := l) (i := i) h11
    refine RQ.ev (.move rfl) rfl rfl ?_
    refine RQ.ev (.move rfl) rfl rfl ?_
    refine RQ.ev (.indexS sl35 rfl rfl (by omega) (hl.is (i := 0) (by simp only [List.length_map, List.length_cons, List.length_nil]; omega))) rfl rfl ?_
    refine RQ.ev (.loadR ([.int .i64 y.k, .int .i64 y.v]) sh82 rfl ((hl.sub S).rowAt (enc := It.cells) (i := i) hy) rfl) rfl rfl ?_
    refine RQ.ev (.loadR ([.int .i64 x.k, .int .i64 x.v]) sh82 rfl hb_3.row rfl) rfl rfl ?_
    refine RQ.call rfl ok49 (fun w' s' => c_refLess y x w') rfl rfl ?_
    refine RQ.ev (.pick_t rfl rfl) rfl rfl ?_
    refine RQ.nil (fun w3 s4 => RC.back ?_)
    have S := S.trans s4
    have hb_3 := hb_3.sub s4
    refine RC.cond rfl (fun h5 => ?_) (fun h5 => ?_)
    ·
      have h18 : lessP y x := of_decide_eq_true h5
      refine RC.skip (RC.back ?_)
      refine RC.block ?_
      refine RC.region rfl ?_
      refine RL.ev (.move rfl) rfl rfl ?_
      refine RL.ev (.as (.bin rfl rfl rfl) (wi64 (y := ((i + 1 : Nat) : Int)) (by omega) (by omega))) rfl rfl ?_
      refine RL.ev (.assign rfl) rfl rfl ?_
      exact RL.nil (fun a ka => ⟨i + 1, ⟨⟨by omega, fun k z hk hz => by rcases Nat.lt_or_ge k i with q | q; exact hp k z q hz; obtain rfl : k = i := (by omega); rw [hy] at hz; cases hz; exact h18⟩, hb_3, S⟩, by omega, ka.keep (keep_of (by repeat (first | exact trivial | refine And.intro rfl ?_)))⟩)
    ·
      have h18 : ¬ lessP y x := of_decide_eq_false h5
      have hwn : whN l x = i := whN_of hi hp (fun z hz => by rw [hy] at hz; cases hz; exact h18)
      refine RC.exit rfl (RC.back ?_)
      refine RC.seq ?_
      refine RC.region rfl ?_
      refine RL.buildSlice0 sl35 rfl rfl (fun b_21 w_21 e_21 z_21 hb_21 s_21 => ?_)
      have ge_21 := S.le e_21
      have n_3__21 := hb_3.ne e_21
      have S := S.trans s_21
      have hb_3 := hb_3.sub s_21
      refine RL.ev (.assign rfl) rfl rfl ?_
      refine RL.nil (RC.back ?_)
      refine RC.seq ?_
      refine RC.region rfl ?_
      refine RL.ev (.move rfl) rfl rfl ?_
      refine RL.ev (.move rfl) rfl rfl ?_
      refine RL.ev (.move rfl) rfl rfl ?_
      refine RL.ev (.as (v' := .slice a ((l.take i).map It.cells).length c) (.sliceHi sl35 rfl rfl (by omega)) (by rw [List.length_map, List.length_take, Nat.min_eq_left hi]; rfl)) rfl rfl ?_
      have sz_26 := S.size
      have ltb_3_26 := hb_3.lt
      have ltb_21_26 := hb_21.lt
      refine RL.append2 (base := w.heap.size) (rows := []) (news := (l.take i).map It.cells) sl35 ze82 rfl rfl rfl rfl (.inl (Ows.lit0 hb_21 (by omega))) (slTakeM (hl.sub S) i) (by (try simp only [List.length_map]); first | done | rfl) (by intro r hr; obtain ⟨x, _, rfl⟩ := List.mem_map.1 hr; rfl) (by rw [List.all_eq_true]; intro r hr; obtain ⟨x, _, rfl⟩ := List.mem_map.1 hr; rfl) (by (try simp only [List.length_map, List.length_nil, List.length_append, List.length_cons]); omega) (by (try simp only [List.length_map, List.length_nil, List.length_append, List.length_cons]); omega) (by omega) rfl rfl (fun v_26 w_26 hc_26 ho_26 ag_26 ob_26 => ?_)
      have o26 := ho_26 (.inr (Ows.lit0 hb_21 (by omega)))
      have d_o26_b_3 := obNe ob_26 (fun k hk e => n_3__21.symm ((obLit hk).trans e)) hb_3.lt
      have S := S.agrN ag_26 (fun k e => Nat.le_trans (by omega) e.2)
      have hb_3 := hb_3.step ag_26 (fun e => n_3__21.symm (obLit e.1))
      obtain ⟨a_26, c_26, rfl, k_26⟩ := o26.form
      refine RL.ev (.assign rfl) rfl rfl ?_
      refine RL.nil (RC.back ?_)
      refine RC.seq ?_
      refine RC.region rfl ?_
      refine RL.ev (.move rfl) rfl rfl ?_
      refine RL.ev (.loadR ([.int .i64 x.k, .int .i64 x.v]) sh82 rfl hb_3.row rfl) rfl rfl ?_
      refine RL.buildSlice1 sl35 _ ze82 rfl rfl rfl rfl rfl rfl rfl (fun b_29 w_29 e_29 z_29 hb_29 s_29 => ?_)
      have ge_29 := S.le e_29
      have n_3__29 := hb_3.ne e_29
      have d_o26_b_29 := o26.neNew e_29
      have S := S.trans s_29
      have hb_3 := hb_3.sub s_29
      have o26 := o26.sub s_29
      have sz_30 := S.size
      have ltb_3_30 := hb_3.lt
      have ltb_29_30 := hb_29.lt
      refine RL.append2 (base := w.heap.size) (rows := (l.take i).map It.cells) (news := [_]) sl35 ze82 rfl rfl rfl rfl (.inl o26) (Has.slOne hb_29) rfl (by intro r hr; rw [List.mem_singleton] at hr; subst hr; rfl) rfl (by (try simp only [List.length_map, List.length_nil, List.length_append, List.length_cons]); omega) (by (try simp only [List.length_map, List.length_nil, List.length_append, List.length_cons]); omega) (by omega) rfl rfl (fun v_30 w_30 hc_30 ho_30 ag_30 ob_30 => ?_)
      have o30 := ho_30 (.inl (by simp))
      rw [show _ ++ [_] = (((l.take i) ++ [x]).map It.cells) from by rw [List.map_append]; rfl] at o30
      have d_o30_b_3 := obNe ob_30 d_o26_b_3 hb_3.lt
      have S := S.agrN ag_30 (fun k e => Nat.le_trans (by omega) e.2)
      have hb_3 := hb_3.step ag_30 (fun e => d_o26_b_3 _ e.1 rfl)
      obtain ⟨a_30, c_30, rfl, k_30⟩ := o30.form
      refine RL.ev (.assign rfl) rfl rfl ?_
      refine RL.nil (RC.back ?_)
      refine RC.seq ?_
      refine RC.region rfl ?_
      refine RL.ev (.move rfl) rfl rfl ?_
      refine RL.ev (.move rfl) rfl rfl ?_
      refine RL.ev (.move rfl) rfl rfl ?_
      refine RL.ev (.as (v' := .slice (if c = i then a else a.map (·.add (i * 2))) ((l.drop i).map It.cells).length (c - i)) (.sliceLo sl35 rfl rfl (by omega)) (by rw [List.length_map, List.length_drop]; rfl)) rfl rfl ?_
      have sz_35 := S.size
      have ltb_3_35 := hb_3.lt
      refine RL.append2 (base := w.heap.size) (rows := ((l.take i) ++ [x]).map It.cells) (news := (l.drop i).map It.cells) sl35 ze82 rfl rfl rfl rfl (.inl o30) (slDropM (hl.sub S) i hc) (by (try simp only [List.length_map]); first | done | rfl) (by intro r hr; obtain ⟨x, _, rfl⟩ := List.mem_map.1 hr; rfl) (by rw [List.all_eq_true]; intro r hr; obtain ⟨x, _, rfl⟩ := List.mem_map.1 hr; rfl) (by (try simp only [List.length_map, List.length_nil, List.length_append, List.length_cons]); omega) (by (try simp only [List.length_map, List.length_nil, List.length_append, List.length_cons]); omega) (by omega) rfl rfl (fun v_35 w_35 hc_35 ho_35 ag_35 ob_35 => ?_)
      have o35 := ho_35 (.inr o30)
      have d_o35_b_3 := obNe ob_35 d_o30_b_3 hb_3.lt
      have S := S.agrN ag_35 (fun k e => Nat.le_trans (by omega) e.2)
      have hb_3 := hb_3.step ag_35 (fun e => d_o30_b_3 _ e.1 rfl)
      obtain ⟨a_35, c_35, rfl, k_35⟩ := o35.form
      refine RL.ev (.assign rfl) rfl rfl ?_
      refine RL.nil (RC.back ?_)
      refine RC.seq ?_
      refine RC.region rfl ?_
      refine RL.ev (.move rfl) rfl rfl ?_
      refine RL.ev (.assign rfl) rfl rfl ?_
      refine RL.nil (RC.back ?_)
      refine RC.done (rs := [.tmp 4]) (vs := [_]) rfl rfl ⟨rfl, trivial⟩ ?_
      -- end 1
      have hrw : ((l.take i ++ [x]).map It.cells ++ (l.drop i).map It.cells) = (l.take i ++ x :: l.drop i).map It.cells := (by simp)
      have hln : ((l.take i ++ x :: l.drop i).map It.cells).length = l.length + 1 := (by rw [List.length_map, List.length_append, List.length_cons, List.length_take, List.length_drop]; omega)
      have q := k_35
      rw [hrw, hln] at o35 q
      rw [hwn]
      exact ⟨S, a_35, c_35, by rw [hrw, hln]; rfl, q, o35⟩
  ·
    have h11 : i = l.length := (by omega)
    have hwn : whN l x = i := whN_of hi hp (fun z hz => absurd (lt_of_get hz) (by omega))
    refine RQ.off rfl rfl ?_
    refine RQ.off rfl rfl ?_
    refine RQ.off rfl rfl ?_
    refine RQ.off rfl rfl ?_
    refine RQ.off rfl rfl ?_
    refine RQ.off rfl rfl ?_
    refine RQ.ev (.pick_f rfl rfl) rfl rfl ?_
    refine RQ.nil (fun w6 s7 => RC.back ?_)
    have S := S.trans s7
    have hb_3 := hb_3.sub s7
    refine RC.cond_f rfl ?_
    refine RC.exit rfl (RC.back ?_)
    refine RC.seq ?_
    refine RC.region rfl ?_
    refine RL.buildSlice0 sl35 rfl rfl (fun b_21 w_21 e_21 z_21 hb_21 s_21 => ?_)
    have ge_21 := S.le e_21
    have n_3__21 := hb_3.ne e_21
    have S := S.trans s_21
    have hb_3 := hb_3.sub s_21
    refine RL.ev (.assign rfl) rfl rfl ?_
    refine RL.nil (RC.back ?_)
    refine RC.seq ?_
    refine RC.region rfl ?_
    refine RL.ev (.move rfl) rfl rfl ?_
    refine RL.ev (.move rfl) rfl rfl ?_
    refine RL.ev (.move rfl) rfl rfl ?_
    refine RL.ev (.as (v' := .slice a ((l.take i).map It.cells).length c) (.sliceHi sl35 rfl rfl (by omega)) (by rw [List.length_map, List.length_take, Nat.min_eq_left hi]; rfl)) rfl rfl ?_
    have sz_26 := S.size
    have ltb_3_26 := hb_3.lt
    have ltb_21_26 := hb_21.lt
    refine RL.append2 (base := w.heap.size) (rows := []) (news := (l.take i).map It.cells) sl35 ze82 rfl rfl rfl rfl (.inl (Ows.lit0 hb_21 (by omega))) (slTakeM (hl.sub S) i) (by (try simp only [List.length_map]); first | done | rfl) (by intro r hr; obtain ⟨x, _, rfl⟩ := List.mem_map.1 hr; rfl) (by rw [List.all_eq_true]; intro r hr; obtain ⟨x, _, rfl⟩ := List.mem_map.1 hr; rfl) (by (try simp only [List.length_map, List.length_nil, List.length_append, List.length_cons]); omega) (by (try simp only [List.length_map, List.length_nil, List.length_append, List.length_cons]); omega) (by omega) rfl rfl (fun v_26 w_26 hc_26 ho_26 ag_26 ob_26 => ?_)
    have o26 := ho_26 (.inr (Ows.lit0 hb_21 (by omega)))
    have d_o26_b_3 := obNe ob_26 (fun k hk e => n_3__21.symm ((obLit hk).trans e)) hb_3.lt
    have S := S.agrN ag_26 (fun k e => Nat.le_trans (by omega) e.2)
    have hb_3 := hb_3.step ag_26 (fun e => n_3__21.symm (obLit e.1))
    obtain ⟨a_26, c_26, rfl, k_26⟩ := o26.form
    refine RL.ev (.assign rfl) rfl rfl ?_
    refine RL.nil (RC.back ?_)
    refine RC.seq ?_
    refine RC.region rfl ?_
    refine RL.ev (.move rfl) rfl rfl ?_
    refine RL.ev (.loadR ([.int .i64 x.k, .int .i64 x.v]) sh82 rfl hb_3.row rfl) rfl rfl ?_
    refine RL.buildSlice1 sl35 _ ze82 rfl rfl rfl rfl rfl rfl rfl (fun b_29 w_29 e_29 z_29 hb_29 s_29 => ?_)
    have ge_29 := S.le e_29
    have n_3__29 := hb_3.ne e_29
    have d_o26_b_29 := o26.neNew e_29
    have S := S.trans s_29
    have hb_3 := hb_3.sub s_29
    have o26 := o26.sub s_29
    have sz_30 := S.size
    have ltb_3_30 := hb_3.lt
    have ltb_29_30 := hb_29.lt
    refine RL.append2 (base := w.heap.size) (rows := (l.take i).map It.cells) (news := [_]) sl35 ze82 rfl rfl rfl rfl (.inl o26) (Has.slOne hb_29) rfl (by intro r hr; rw [List.mem_singleton] at hr; subst hr; rfl) rfl (by (try simp only [List.length_map, List.length_nil, List.length_append, List.length_cons]); omega) (by (try simp only [List.length_map, List.length_nil, List.length_append, List.length_cons]); omega) (by omega) rfl rfl (fun v_30 w_30 hc_30 ho_30 ag_30 ob_30 => ?_)
    have o30 := ho_30 (.inl (by simp))
    rw [show _ ++ [_] = (((l.take i) ++ [x]).map It.cells) from by rw [List.map_append]; rfl] at o30
    have d_o30_b_3 := obNe ob_30 d_o26_b_3 hb_3.lt
    have S := S.agrN ag_30 (fun k e => Nat.le_trans (by omega) e.2)
    have hb_3 := hb_3.step ag_30 (fun e => d_o26_b_3 _ e.1 rfl)
    obtain ⟨a_30, c_30, rfl, k_30⟩ := o30.form
    refine RL.ev (.assign rfl) rfl rfl ?_
    refine RL.nil (RC.back ?_)
    refine RC.seq ?_
    refine RC.region rfl ?_
    refine RL.ev (.move rfl) rfl rfl ?_
    refine RL.ev (.move rfl) rfl rfl ?_
    refine RL.ev (.move rfl) rfl rfl ?_
    refine RL.ev (.as (v' := .slice (if c = i then a else a.map (·.add (i * 2))) ((l.drop i).map It.cells).length (c - i)) (.sliceLo sl35 rfl rfl (by omega)) (by rw [List.length_map, List.length_drop]; rfl)) rfl rfl ?_
    have sz_35 := S.size
    have ltb_3_35 := hb_3.lt
    refine RL.append2 (base := w.heap.size) (rows := ((l.take i) ++ [x]).map It.cells) (news := (l.drop i).map It.cells) sl35 ze82 rfl rfl rfl rfl (.inl o30) (slDropM (hl.sub S) i hc) (by (try simp only [List.length_map]); first | done | rfl) (by intro r hr; obtain ⟨x, _, rfl⟩ := List.mem_map.1 hr; rfl) (by rw [List.all_eq_true]; intro r hr; obtain ⟨x, _, rfl⟩ := List.mem_map.1 hr; rfl) (by (try simp only [List.length_map, List.length_nil, List.length_append, List.length_cons]); omega) (by (try simp only [List.length_map, List.length_nil, List.length_append, List.length_cons]); omega) (by omega) rfl rfl (fun v_35 w_35 hc_35 ho_35 ag_35 ob_35 => ?_)
    have o35 := ho_35 (.inr o30)
    have d_o35_b_3 := obNe ob_35 d_o30_b_3 hb_3.lt
    have S := S.agrN ag_35 (fun k e => Nat.le_trans (by omega) e.2)
    have hb_3 := hb_3.step ag_35 (fun e => d_o30_b_3 _ e.1 rfl)
    obtain ⟨a_35, c_35, rfl, k_35⟩ := o35.form
    refine RL.ev (.assign rfl) rfl rfl ?_
    refine RL.nil (RC.back ?_)
    refine RC.seq ?_
    refine RC.region rfl ?_
    refine RL.ev (.move rfl) rfl rfl ?_
    refine RL.ev (.assign rfl) rfl rfl ?_
    refine RL.nil (RC.back ?_)
    refine RC.done (rs := [.tmp 4]) (vs := [_]) rfl rfl ⟨rfl, trivial⟩ ?_
    -- end 2
    have hrw : ((l.take i ++ [x]).map It.cells ++ (l.drop i).map It.cells) = (l.take i ++ x :: l.drop i).map It.cells := (by simp)
    have hln : ((l.take i ++ x :: l.drop i).map It.cells).length = l.length + 1 := (by rw [List.length_map, List.length_append, List.length_cons, List.length_take, List.length_drop]; omega)
    have q := k_35
    rw [hrw, hln] at o35 q
    rw [hwn]
    exact ⟨S, a_35, c_35, by rw [hrw, hln]; rfl, q, o35⟩
theorem c_refHeap (l : List It) (a : Option Addr) (c m : Nat) (hm : m = l.length) (hl200 : l.length ≤ 200) (hc : l.length ≤ c) (o : OpT) (hok : okP o) (w : World) (M : Nat → Prop) (hF : Ft M (fun u => Sl u a 2 (l.map It.cells)) w) :
    FC Try.prog 33 [.slice a m c, .agg o.cells.toArray] w (fun u w' => AnsR M w w' (heapM l o) u) := by
  subst hm
  have hl := hF.now
  refine FC.intro Try.func33 rfl Try.ntmps33 rfl ?_
  have S := Sub.refl w
  refine RC.seq ?_
  refine RC.region rfl ?_
  refine RL.box rfl rfl rfl (fun b_3 w_3 e_3 z_3 hb_3 s_3 => ?_)
  have ge_3 := S.le e_3
  have S := S.trans s_3
  have hb_3 : Has w_3 b_3 ([.int .i64 o.box, .int .i64 o.kind, .int .i64 o.a, .int .i64 o.b]) _ := hb_3
  refine RL.alloc ze64 rfl rfl (fun b_4 w_4 e_4 z_4 hb_4 s_4 => ?_)
  have ge_4 := S.le e_4
  have n_3__4 := hb_3.ne e_4
  have S := S.trans s_4
  have hb_3 := hb_3.sub s_4
  refine RL.nil (RC.back ?_)
  refine RC.seq ?_
  refine RC.seq ?_
  refine RC.region rfl ?_
  refine RL.ev (.field0 fo40_1 rfl) rfl rfl ?_
  refine RL.ev (.load1 sh3 rfl (hb_3.cell rfl)) rfl rfl ?_
  refine RL.ev (.bin rfl rfl rfl) rfl rfl ?_
  refine RL.nil (RC.back ?_)
  refine RC.cond_dec rfl (fun h1 => ?_) (fun h1 => ?_)
  ·
    have k10 := h1
    refine RC.seq ?_
    refine RC.region rfl ?_
    refine RL.ev (.move rfl) rfl rfl ?_
    refine RL.ev (.move rfl) rfl rfl ?_
    refine RL.ev (.len sl35 rfl) rfl rfl ?_
    refine RL.ev (.as (v' := .agg #[.int .i64 0, .int .i64 (l.length : Int), .int .i64 0]) (.buildS ze43 pl43 rfl rfl) (by kernel_rfl)) rfl rfl ?_
    refine RL.ev (.as (v' := .agg #[.slice a l.length c, .int .i64 0, .int .i64 (l.length : Int), .int .i64 0]) (.buildS ze64 pl64 rfl rfl) (by kernel_rfl)) rfl rfl ?_
    refine RL.store sh64 rfl rfl rfl hb_4 (by exact Nat.le_of_ble_eq_true rfl) (by rfl) rfl (fun w2 z2 hb_4 a2 => ?_)
    have S := S.upd a2 ge_4
    have hb_3 := hb_3.upd a2 n_3__4
    have hb_4 : Has w2 b_4 ([.slice a l.length c, .int .i64 0, .int .i64 (l.length : Int), .int .i64 0]) _ := hb_4.now (by kernel_rfl)
    refine RL.nil (RC.back ?_)
    refine RC.done (rs := [.cell 4 64]) (vs := [_]) rfl rfl ⟨⟨_, rfl, .inr ⟨[.slice a l.length c, .int .i64 0, .int .i64 (l.length : Int), .int .i64 0], sh64, hb_4.row, rfl⟩⟩, trivial⟩ ?_
    -- end 1
    have he : heapM l o = (l, ⟨0, l.length, 0⟩) := (by rw [heapM, if_pos k10])
    rw [he]
    exact ⟨S, _, _, M, rfl, hc, hF.sub S, Up.refl _ _⟩
  ·
    have n10 := h1
    refine RC.skip (RC.back ?_)
    refine RC.seq ?_
    refine RC.seq ?_
    refine RC.region rfl ?_
    refine RL.ev (.field0 fo40_1 rfl) rfl rfl ?_
    refine RL.ev (.load1 sh3 rfl (hb_3.cell rfl)) rfl rfl ?_
    refine RL.ev (.bin rfl rfl rfl) rfl rfl ?_
    refine RL.nil (RC.back ?_)
    refine RC.cond_dec rfl (fun h3 => ?_) (fun h3 => ?_)
    ·
      have k22 := h3
      refine RC.seq ?_
      refine RC.seq ?_
      refine RC.region rfl ?_
      refine RL.ev (.move rfl) rfl rfl ?_
      refine RL.ev (.len sl35 rfl) rfl rfl ?_
      refine RL.ev (.bin rfl rfl rfl) rfl rfl ?_
      refine RL.nil (RC.back ?_)
      refine RC.cond_dec rfl (fun h4 => ?_) (fun h4 => ?_)
      ·
        have k18 : 200 ≤ l.length := (by omega)
        refine RC.seq ?_
        refine RC.region rfl ?_
        refine RL.ev (.move rfl) rfl rfl ?_
        refine RL.ev (.as (v' := .agg #[.int .i64 5, .int .i64 0, .int .i64 0]) (.buildS ze43 pl43 rfl rfl) (by kernel_rfl)) rfl rfl ?_
        refine RL.ev (.as (v' := .agg #[.slice a l.length c, .int .i64 5, .int .i64 0, .int .i64 0]) (.buildS ze64 pl64 rfl rfl) (by kernel_rfl)) rfl rfl ?_
        refine RL.store sh64 rfl rfl rfl hb_4 (by exact Nat.le_of_ble_eq_true rfl) (by rfl) rfl (fun w5 z5 hb_4 a5 => ?_)
        have S := S.upd a5 ge_4
        have hb_3 := hb_3.upd a5 n_3__4
        have hb_4 : Has w5 b_4 ([.slice a l.length c, .int .i64 5, .int .i64 0, .int .i64 0]) _ := hb_4.now (by kernel_rfl)
        refine RL.nil (RC.back ?_)
        refine RC.done (rs := [.cell 4 64]) (vs := [_]) rfl rfl ⟨⟨_, rfl, .inr ⟨[.slice a l.length c, .int .i64 5, .int .i64 0, .int .i64 0], sh64, hb_4.row, rfl⟩⟩, trivial⟩ ?_
        -- end 2
        have he : heapM l o = (l, ⟨5, 0, 0⟩) := (by rw [heapM, if_neg n10, if_pos k22, if_pos k18])
        rw [he]
        exact ⟨S, _, _, M, rfl, hc, hF.sub S, Up.refl _ _⟩
      ·
        have n18 : ¬ 200 ≤ l.length := (by omega)
        refine RC.skip (RC.back ?_)
        refine RC.seq ?_
        refine RC.region rfl ?_
        refine RL.ev (.move rfl) rfl rfl ?_
        refine RL.ev (.field0 fo40_2 rfl) rfl rfl ?_
        refine RL.ev (.load1 sh2 rfl (hb_3.cell rfl)) rfl rfl ?_
        refine RL.ev (.field0 fo40_3 rfl) rfl rfl ?_
        refine RL.ev (.load1 sh2 rfl (hb_3.cell rfl)) rfl rfl ?_
        refine RL.ev (.buildS ze82 pl82 rfl rfl) rfl rfl ?_
        refine RL.call rfl ok45 (c_with l ⟨o.a, o.b⟩ a c _ rfl hc w_4 (hl.sub S) (by omega)) rfl rfl ?_
        rintro _ w6 ⟨s7, a7, c7, rfl, hc7, o7⟩
        have lt4 := hb_4.lt
        have szS := S.size
        have S := S.trans s7
        have hb_3 := hb_3.sub s7
        have hb_4 := hb_4.sub s7
        have d7 : ∀ k, ob (.slice a7 (l.length + 1) c7) = some k → k ≠ b_4 := (fun k hk e => by have := (o7.ge k hk).1; omega)
        have d73 : ∀ k, ob (.slice a7 (l.length + 1) c7) = some k → k ≠ b_3 := (fun k hk e => by have := (o7.ge k hk).1; omega)
        refine RL.ev (.as (v' := .agg #[.slice a7 (l.length + 1) c7, .int .i64 0, .int .i64 0, .int .i64 0]) (.buildS ze64 pl64 rfl rfl) (by kernel_rfl)) rfl rfl ?_
        refine RL.store sh64 rfl rfl rfl hb_4 (by exact Nat.le_of_ble_eq_true rfl) (by rfl) rfl (fun w8 z8 hb_4 a8 => ?_)
        have S := S.upd a8 ge_4
        have hb_3 := hb_3.upd a8 n_3__4
        have o7 := o7.updD a8 d7
        have hb_4 : Has w8 b_4 ([.slice a7 (l.length + 1) c7, .int .i64 0, .int .i64 0, .int .i64 0]) _ := hb_4.now (by kernel_rfl)
        refine RL.nil (RC.back ?_)
        refine RC.done (rs := [.cell 4 64]) (vs := [_]) rfl rfl ⟨⟨_, rfl, .inr ⟨[.slice a7 (l.length + 1) c7, .int .i64 0, .int .i64 0, .int .i64 0], sh64, hb_4.row, rfl⟩⟩, trivial⟩ ?_
        -- end 3
        have he : heapM l o = (l.take (whN l ⟨o.a, o.b⟩) ++ ⟨o.a, o.b⟩ :: l.drop (whN l ⟨o.a, o.b⟩), ⟨0, 0, 0⟩) := (by rw [heapM, if_neg n10, if_pos k22, if_neg n18])
        have hln : (l.take (whN l ⟨o.a, o.b⟩) ++ (⟨o.a, o.b⟩ : It) :: l.drop (whN l ⟨o.a, o.b⟩)).length = l.length + 1 := (by have := o7.sl.2; rw [List.length_map] at this; exact this.symm)
        rw [he]
        exact ⟨S, _, _, _, by rw [hln]; rfl, by rw [hln]; exact hc7, o7.ft.imp (fun u h => h.sl.1), fun k hk => .inr (Nat.le_trans szS (o7.ge k hk).1)⟩
    ·
      have n22 := h3
      refine RC.skip (RC.back ?_)
      refine RC.seq ?_
      refine RC.seq ?_
      refine RC.region rfl ?_
      refine RL.ev (.move rfl) rfl rfl ?_
      refine RL.ev (.len sl35 rfl) rfl rfl ?_
      refine RL.ev (.bin rfl rfl rfl) rfl rfl ?_
      refine RL.nil (RC.back ?_)
      refine RC.cond_dec rfl (fun h9 => ?_) (fun h9 => ?_)
      ·
        have k51 : l.length = 0 := (by omega)
        refine RC.seq ?_
        refine RC.region rfl ?_
        refine RL.ev (.move rfl) rfl rfl ?_
        refine RL.ev (.as (v' := .agg #[.int .i64 3, .int .i64 0, .int .i64 0]) (.buildS ze43 pl43 rfl rfl) (by kernel_rfl)) rfl rfl ?_
        refine RL.ev (.as (v' := .agg #[.slice a l.length c, .int .i64 3, .int .i64 0, .int .i64 0]) (.buildS ze64 pl64 rfl rfl) (by kernel_rfl)) rfl rfl ?_
        refine RL.store sh64 rfl rfl rfl hb_4 (by exact Nat.le_of_ble_eq_true rfl) (by rfl) rfl (fun w10 z10 hb_4 a10 => ?_)
        have S := S.upd a10 ge_4
        have hb_3 := hb_3.upd a10 n_3__4
        have hb_4 : Has w10 b_4 ([.slice a l.length c, .int .i64 3, .int .i64 0, .int .i64 0]) _ := hb_4.now (by kernel_rfl)
        refine RL.nil (RC.back ?_)
        refine RC.done (rs := [.cell 4 64]) (vs := [_]) rfl rfl ⟨⟨_, rfl, .inr ⟨[.slice a l.length c, .int .i64 3, .int .i64 0, .int .i64 0], sh64, hb_4.row, rfl⟩⟩, trivial⟩ ?_
        -- end 4
        have he : heapM l o = (l, ⟨3, 0, 0⟩) := (by rw [heapM, if_neg n10, if_neg n22, if_pos k51])
        rw [he]
        exact ⟨S, _, _, M, rfl, hc, hF.sub S, Up.refl _ _⟩
      ·
        have n51 : 0 < l.length := (by omega)
        obtain ⟨y, hy⟩ := getSome (l := l) (i := 0) n51
        have hva := valAt_get hy
        refine RC.skip (RC.back ?_)
        refine RC.seq ?_
        refine RC.drawD (fun k => False) [10] w_4.heap.size 11 rfl rfl mxo (fun w11 s12 => ?_)
        have hNN : ∀ k, ((False) ∨ w_4.heap.size ≤ k) → w.heap.size ≤ k := fun k e => e.elim (fun e => e.elim) (fun e => Nat.le_trans S.size e)
        have ent_S := S.size
        have hN0 : ∀ k, w_4.heap.size ≤ k → w.heap.size ≤ k := fun k e => Nat.le_trans S.size e
        have ltD_b_3 := hb_3.lt
        have ltD_b_4 := hb_4.lt
        have szD := Nat.le_refl w_4.heap.size
        have S := S.trans s12
        have hb_3 := hb_3.sub s12
        have hb_4 := hb_4.sub s12
        have szD := Nat.le_trans szD s12.size
        refine RD.take 0 rfl (by kernel_rfl) (by kernel_rfl) (by kernel_rfl) (fun w' s' => .move rfl) rfl rfl ?_
        refine RD.take 1 rfl (by kernel_rfl) (by kernel_rfl) (by kernel_rfl) (fun w' s' => .indexS sl35 rfl rfl (by omega) (hl.is (i := 0) (by simp only [List.length_map, List.length_cons, List.length_nil]; omega))) rfl rfl ?_
        refine RD.take 2 rfl (by kernel_rfl) (by kernel_rfl) (by kernel_rfl) (fun w' s' => .fieldA fo82_0 rfl) rfl rfl ?_
        refine RD.take 3 rfl (by kernel_rfl) (by kernel_rfl) (by kernel_rfl) (fun w' s' => .load1 sh2 rfl ((hl.sub (S.agrN s' hNN)).cell (enc := It.cells) (i := 0) (j := 0) hy rfl)) rfl rfl ?_
        refine RD.take 4 rfl (by kernel_rfl) (by kernel_rfl) (by kernel_rfl) (fun w' s' => .move rfl) rfl rfl ?_
        refine RD.take 5 rfl (by kernel_rfl) (by kernel_rfl) (by kernel_rfl) (fun w' s' => .indexS sl35 rfl rfl (by omega) (hl.is (i := 0) (by simp only [List.length_map, List.length_cons, List.length_nil]; omega))) rfl rfl ?_
        refine RD.take 6 rfl (by kernel_rfl) (by kernel_rfl) (by kernel_rfl) (fun w' s' => .fieldA fo82_1 rfl) rfl rfl ?_
        refine RD.take 7 rfl (by kernel_rfl) (by kernel_rfl) (by kernel_rfl) (fun w' s' => .load1 sh2 rfl ((hl.sub (S.agrN s' hNN)).cell (enc := It.cells) (i := 0) (j := 1) hy rfl)) rfl rfl ?_
        refine RD.take 8 rfl (by kernel_rfl) (by kernel_rfl) (by kernel_rfl) (fun w' s' => .as (v' := .agg #[.int .i64 0, .int .i64 y.k, .int .i64 y.v]) (.buildS ze43 pl43 rfl rfl) (by kernel_rfl)) rfl rfl ?_
        refine RD.all [9] (by kernel_rfl) rfl (RDs.cons rfl ?_ (RDs.nil))
        refine RL.alloc ze43 rfl rfl (fun b_5 w_5 e_5 z_5 hb_5 s_5 => ?_)
        have fr_b_5 : w_4.heap.size ≤ b_5 := by rw [e_5]; exact szD
        have ge_5 := S.le e_5
        have n_3__5 := hb_3.ne e_5
        have n_4__5 := hb_4.ne e_5
        have S := S.trans s_5
        have hb_3 := hb_3.sub s_5
        have hb_4 := hb_4.sub s_5
        have szD := Nat.le_trans szD s_5.size
        refine RD.back s_5.agr ?_
        refine RD.all [10] (by kernel_rfl) rfl (RDs.cons rfl ?_ (RDs.nil))
        refine RL.store sh43 rfl rfl rfl hb_5 (by exact Nat.le_of_ble_eq_true rfl) (by rfl) rfl (fun w13 z13 hb_5 a13 => ?_)
        have S := S.upd a13 ge_5
        have hb_3 := hb_3.upd a13 n_3__5
        have hb_4 := hb_4.upd a13 n_4__5
        have szD := Nat.le_trans szD a13.size
        have hb_5 : Has w13 b_5 ([.int .i64 0, .int .i64 y.k, .int .i64 y.v]) _ := hb_5.now (by kernel_rfl)
        refine RD.backW rfl (a13.mono fun k _ e => e ▸ (.inr fr_b_5)) ?_
        refine RD.done (by kernel_rfl) (RC.back ?_)
        refine RC.seq ?_
        refine RC.seq ?_
        refine RC.region rfl ?_
        refine RL.ev (.field0 fo40_1 rfl) rfl rfl ?_
        refine RL.ev (.load1 sh3 rfl (hb_3.cell rfl)) rfl rfl ?_
        refine RL.ev (.bin rfl rfl rfl) rfl rfl ?_
        refine RL.nil (RC.back ?_)
        refine RC.cond_dec rfl (fun h14 => ?_) (fun h14 => ?_)
        ·
          have k68 := h14
          refine RC.seq ?_
          refine RC.drawD (fun k => k = b_4) [4] w13.heap.size 5 rfl rfl mxo (fun w15 s16 => ?_)
          have hNN : ∀ k, ((k = b_4) ∨ w13.heap.size ≤ k) → w.heap.size ≤ k := fun k e => e.elim (fun e => e ▸ ge_4) (fun e => Nat.le_trans S.size e)
          have ent_S := S.size
          have hN0 : ∀ k, w13.heap.size ≤ k → w.heap.size ≤ k := fun k e => Nat.le_trans S.size e
          have ltD_b_3 := hb_3.lt
          have ltD_b_4 := hb_4.lt
          have ltD_b_5 := hb_5.lt
          have szD := Nat.le_refl w13.heap.size
          have S := S.trans s16
          have hb_3 := hb_3.sub s16
          have hb_4 := hb_4.sub s16
          have hb_5 := hb_5.sub s16
          have szD := Nat.le_trans szD s16.size
          refine RD.take 0 rfl (by kernel_rfl) (by kernel_rfl) (by kernel_rfl) (fun w' s' => .move rfl) rfl rfl ?_
          refine RD.take 1 rfl (by kernel_rfl) (by kernel_rfl) (by kernel_rfl) (fun w' s' => .as (v' := .slice (if c = 1 then a else a.map (·.add (1 * 2))) (l.drop 1).length (c - 1)) (.sliceLo sl35 rfl rfl (by omega)) (by rw [List.length_drop]; rfl)) rfl rfl ?_
          refine RD.take 2 rfl (by kernel_rfl) (by kernel_rfl) (by kernel_rfl) (fun w' s' => .loadR ([.int .i64 0, .int .i64 y.k, .int .i64 y.v]) sh43 rfl (hb_5.step s' (fun e => e.elim (fun e => n_4__5.symm e) (fun e => Nat.not_le.2 ltD_b_5 e))).row rfl) rfl rfl ?_
          refine RD.take 3 rfl (by kernel_rfl) (by kernel_rfl) (by kernel_rfl) (fun w' s' => .as (v' := .agg #[.slice (if c = 1 then a else a.map (·.add (1 * 2))) (l.drop 1).length (c - 1), .int .i64 0, .int .i64 y.k, .int .i64 y.v]) (.buildS ze64 pl64 rfl rfl) (by kernel_rfl)) rfl rfl ?_
          refine RD.all [4] (by kernel_rfl) rfl (RDs.cons rfl ?_ (RDs.nil))
          refine RL.store sh64 rfl rfl rfl hb_4 (by exact Nat.le_of_ble_eq_true rfl) (by rfl) rfl (fun w17 z17 hb_4 a17 => ?_)
          have S := S.upd a17 ge_4
          have hb_3 := hb_3.upd a17 n_3__4
          have hb_5 := hb_5.upd a17 n_4__5.symm
          have szD := Nat.le_trans szD a17.size
          have hb_4 : Has w17 b_4 ([.slice (if c = 1 then a else a.map (·.add (1 * 2))) (l.drop 1).length (c - 1), .int .i64 0, .int .i64 y.k, .int .i64 y.v]) _ := hb_4.now (by kernel_rfl)
          refine RD.backW rfl (a17.mono fun k _ e => e ▸ (.inl (rfl))) ?_
          refine RD.done (by kernel_rfl) (RC.back ?_)
          refine RC.done (rs := [.cell 4 64]) (vs := [_]) rfl rfl ⟨⟨_, rfl, .inr ⟨[.slice (if c = 1 then a else a.map (·.add (1 * 2))) (l.drop 1).length (c - 1), .int .i64 0, .int .i64 y.k, .int .i64 y.v], sh64, hb_4.row, rfl⟩⟩, trivial⟩ ?_
          -- end 5
          have he : heapM l o = (l.drop 1, ⟨0, y.k, y.v⟩) := (by rw [heapM, if_neg n10, if_neg n22, if_neg (by omega), if_pos k68, hva])
          rw [he]
          exact ⟨S, _, _, M, rfl, by rw [List.length_drop]; show _ ≤ c - 1; omega, (hF.sub S).imp (fun u h => slDropM h 1 hc), Up.refl _ _⟩
        ·
          have n68 := h14
          refine RC.skip (RC.back ?_)
          refine RC.seq ?_
          refine RC.region rfl ?_
          refine RL.ev (.move rfl) rfl rfl ?_
          refine RL.ev (.loadR ([.int .i64 0, .int .i64 y.k, .int .i64 y.v]) sh43 rfl hb_5.row rfl) rfl rfl ?_
          refine RL.ev (.as (v' := .agg #[.slice a l.length c, .int .i64 0, .int .i64 y.k, .int .i64 y.v]) (.buildS ze64 pl64 rfl rfl) (by kernel_rfl)) rfl rfl ?_
          refine RL.store sh64 rfl rfl rfl hb_4 (by exact Nat.le_of_ble_eq_true rfl) (by rfl) rfl (fun w18 z18 hb_4 a18 => ?_)
          have S := S.upd a18 ge_4
          have hb_3 := hb_3.upd a18 n_3__4
          have hb_5 := hb_5.upd a18 n_4__5.symm
          have hb_4 : Has w18 b_4 ([.slice a l.length c, .int .i64 0, .int .i64 y.k, .int .i64 y.v]) _ := hb_4.now (by kernel_rfl)
          refine RL.nil (RC.back ?_)
          refine RC.done (rs := [.cell 4 64]) (vs := [_]) rfl rfl ⟨⟨_, rfl, .inr ⟨[.slice a l.length c, .int .i64 0, .int .i64 y.k, .int .i64 y.v], sh64, hb_4.row, rfl⟩⟩, trivial⟩ ?_
          -- end 6
          have he : heapM l o = (l, ⟨0, y.k, y.v⟩) := (by rw [heapM, if_neg n10, if_neg n22, if_neg (by omega), if_neg n68, hva])
          rw [he]
          exact ⟨S, _, _, M, rfl, hc, hF.sub S, Up.refl _ _⟩
end Go.Proofs.Ytlhnnleaiinjaaa
set_option linter.unusedVariables false
set_option linter.unusedSimpArgs false
namespace Go.Proofs.Ytlhnnleaiinjaaa
open Go Go.XL
def AnsRV (M : Nat → Prop) (w w' : World) (q : List Int × ResT) (u : Value) : Prop := Sub w w' ∧ ∃ a' c' M', u = .agg #[.slice a' q.1.length c', .int .i64 q.2.e, .int .i64 q.2.a, .int .i64 q.2.b] ∧ q.1.length ≤ c' ∧ Ft M' (fun u => Sl u a' 1 (q.1.map fun x => [i6 x])) w' ∧ Up M w M'
theorem c_refRowM (l : List Int) (a : Option Addr) (c m : Nat) (hm : m = l.length) (hl200 : l.length ≤ 200) (hc : l.length ≤ c) (o : OpT) (hok : okP o) (w : World) (M : Nat → Prop) (hF : Ft M (fun u => Sl u a 1 (l.map fun x => [i6 x])) w) :
    FC Try.prog 32 [.slice a m c, .agg o.cells.toArray] w (fun u w' => AnsRV M w w' (rowM l o) u) := by
  subst hm
  have hl := hF.now
  have hk := hok.1
  have hkk : 1 ≤ o.kind ∧ o.kind ≤ 6 := ⟨hk.2.2.1, hk.2.2.2.1⟩
  refine FC.intro Try.func32 rfl Try.ntmps32 rfl ?_
  have S := Sub.refl w
  refine RC.seq ?_
  refine RC.region rfl ?_
  refine RL.box rfl rfl rfl (fun b_3 w_3 e_3 z_3 hb_3 s_3 => ?_)
  have ge_3 := S.le e_3
  have S := S.trans s_3
  have hb_3 : Has w_3 b_3 ([.int .i64 o.box, .int .i64 o.kind, .int .i64 o.a, .int .i64 o.b]) _ := hb_3
  refine RL.alloc ze67 rfl rfl (fun b_4 w_4 e_4 z_4 hb_4 s_4 => ?_)
  have ge_4 := S.le e_4
  have n_3__4 := hb_3.ne e_4
  have S := S.trans s_4
  have hb_3 := hb_3.sub s_4
  refine RL.nil (RC.back ?_)
  refine RC.seq ?_
  refine RC.region rfl ?_
  refine RL.ev (.move rfl) rfl rfl ?_
  refine RL.ev (.len sl36 rfl) rfl rfl ?_
  refine RL.ev (.assign rfl) rfl rfl ?_
  refine RL.nil (RC.back ?_)
  refine RC.seq ?_
  refine RC.region rfl ?_
  refine RL.buildSlice0 sl36 rfl rfl (fun b_9 w_9 e_9 z_9 hb_9 s_9 => ?_)
  have ge_9 := S.le e_9
  have n_3__9 := hb_3.ne e_9
  have n_4__9 := hb_4.ne e_9
  have S := S.trans s_9
  have hb_3 := hb_3.sub s_9
  have hb_4 := hb_4.sub s_9
  refine RL.ev (.assign rfl) rfl rfl ?_
  refine RL.nil (RC.back ?_)
  refine RC.seq ?_
  refine RC.seq ?_
  refine RC.region rfl ?_
  refine RL.ev (.field0 fo40_1 rfl) rfl rfl ?_
  refine RL.ev (.load1 sh3 rfl (hb_3.cell rfl)) rfl rfl ?_
  refine RL.nil (RC.back ?_)
  refine RC.block ?_
  refine RC.seq ?_
  refine RC.region rfl ?_
  refine RL.ev (.bin rfl rfl rfl) rfl rfl ?_
  refine RL.ev (.assign rfl) rfl rfl ?_
  refine RL.nil (RC.back ?_)
  refine RC.cond_dec rfl (fun h1 => ?_) (fun h1 => ?_)
  ·
    have k12 := h1
    refine RC.seq ?_
    refine RC.region rfl ?_
    refine RL.ev (.move rfl) rfl rfl ?_
    refine RL.ev (.move rfl) rfl rfl ?_
    refine RL.ev (.as (v' := .agg #[.int .i64 0, .int .i64 (l.length : Int), .int .i64 0]) (.buildS ze43 pl43 rfl rfl) (by kernel_rfl)) rfl rfl ?_
    refine RL.ev (.as (v' := .agg #[.slice a l.length c, .int .i64 0, .int .i64 (l.length : Int), .int .i64 0]) (.buildS ze67 pl67 rfl rfl) (by kernel_rfl)) rfl rfl ?_
    refine RL.store sh67 rfl rfl rfl hb_4 (by exact Nat.le_of_ble_eq_true rfl) (by rfl) rfl (fun w2 z2 hb_4 a2 => ?_)
    have S := S.upd a2 ge_4
    have hb_3 := hb_3.upd a2 n_3__4
    have hb_9 := hb_9.upd a2 n_4__9.symm
    have hb_4 : Has w2 b_4 ([.slice a l.length c, .int .i64 0, .int .i64 (l.length : Int), .int .i64 0]) _ := hb_4.now (by kernel_rfl)
    refine RL.nil (RC.back ?_)
    refine RC.done (rs := [.cell 4 67]) (vs := [_]) rfl rfl ⟨⟨_, rfl, .inr ⟨[.slice a l.length c, .int .i64 0, .int .i64 (l.length : Int), .int .i64 0], sh67, hb_4.row, rfl⟩⟩, trivial⟩ ?_
    -- end 1
    have he : rowM l o = (l, ⟨0, l.length, 0⟩) := (by rw [rowM, if_pos k12])
    rw [he]
    exact ⟨S, _, _, M, rfl, hc, hF.sub S, Up.refl _ _⟩
  ·
    have n12 := h1
    refine RC.seq ?_
    refine RC.region rfl ?_
    refine RL.ev (.bin rfl rfl rfl) rfl rfl ?_
    refine RL.ev (.assign rfl) rfl rfl ?_
    refine RL.nil (RC.back ?_)
    refine RC.cond_dec rfl (fun h3 => ?_) (fun h3 => ?_)
    ·
      have k18 := h3
      refine RC.seq ?_
      refine RC.seq ?_
      refine RC.region rfl ?_
      refine RL.ev (.field0 fo40_2 rfl) rfl rfl ?_
      refine RL.ev (.load1 sh2 rfl (hb_3.cell rfl)) rfl rfl ?_
      refine RL.ev (.bin rfl rfl rfl) rfl rfl ?_
      refine RL.ev (.move rfl) rfl rfl ?_
      refine RL.split 23 rfl (fun h4 => ?_) (fun h4 => ?_)
      ·
        have k23 : o.a < 0 := h4
        refine RL.off rfl rfl ?_
        refine RL.off rfl rfl ?_
        refine RL.off rfl rfl ?_
        refine RL.off rfl rfl ?_
        refine RL.ev (.pick_t rfl rfl) rfl rfl ?_
        refine RL.nil (RC.back ?_)
        refine RC.cond_t rfl ?_
        refine RC.seq ?_
        refine RC.region rfl ?_
        refine RL.ev (.move rfl) rfl rfl ?_
        refine RL.ev (.as (v' := .agg #[.int .i64 3, .int .i64 0, .int .i64 0]) (.buildS ze43 pl43 rfl rfl) (by kernel_rfl)) rfl rfl ?_
        refine RL.ev (.as (v' := .agg #[.slice a l.length c, .int .i64 3, .int .i64 0, .int .i64 0]) (.buildS ze67 pl67 rfl rfl) (by kernel_rfl)) rfl rfl ?_
        refine RL.store sh67 rfl rfl rfl hb_4 (by exact Nat.le_of_ble_eq_true rfl) (by rfl) rfl (fun w5 z5 hb_4 a5 => ?_)
        have S := S.upd a5 ge_4
        have hb_3 := hb_3.upd a5 n_3__4
        have hb_9 := hb_9.upd a5 n_4__9.symm
        have hb_4 : Has w5 b_4 ([.slice a l.length c, .int .i64 3, .int .i64 0, .int .i64 0]) _ := hb_4.now (by kernel_rfl)
        refine RL.nil (RC.back ?_)
        refine RC.done (rs := [.cell 4 67]) (vs := [_]) rfl rfl ⟨⟨_, rfl, .inr ⟨[.slice a l.length c, .int .i64 3, .int .i64 0, .int .i64 0], sh67, hb_4.row, rfl⟩⟩, trivial⟩ ?_
        -- end 2
        have he : rowM l o = (l, ⟨3, 0, 0⟩) := (by rw [rowM, if_neg n12, if_neg (by omega), if_pos k18, if_pos (.inl k23)])
        rw [he]
        exact ⟨S, _, _, M, rfl, hc, hF.sub S, Up.refl _ _⟩
      ·
        have n23 : ¬ o.a < 0 := h4
        refine RL.ev (.field0 fo40_2 rfl) rfl rfl ?_
        refine RL.ev (.load1 sh2 rfl (hb_3.cell rfl)) rfl rfl ?_
        refine RL.ev (.move rfl) rfl rfl ?_
        refine RL.ev (.bin rfl rfl rfl) rfl rfl ?_
        refine RL.ev (.pick_f rfl rfl) rfl rfl ?_
        refine RL.nil (RC.back ?_)
        refine RC.cond_dec rfl (fun h6 => ?_) (fun h6 => ?_)
        ·
          have k28 : (l.length : Int) ≤ o.a := (by omega)
          refine RC.seq ?_
          refine RC.region rfl ?_
          refine RL.ev (.move rfl) rfl rfl ?_
          refine RL.ev (.as (v' := .agg #[.int .i64 3, .int .i64 0, .int .i64 0]) (.buildS ze43 pl43 rfl rfl) (by kernel_rfl)) rfl rfl ?_
          refine RL.ev (.as (v' := .agg #[.slice a l.length c, .int .i64 3, .int .i64 0, .int .i64 0]) (.buildS ze67 pl67 rfl rfl) (by kernel_rfl)) rfl rfl ?_
          refine RL.store sh67 rfl rfl rfl hb_4 (by exact Nat.le_of_ble_eq_true rfl) (by rfl) rfl (fun w7 z7 hb_4 a7 => ?_)
          have S := S.upd a7 ge_4
          have hb_3 := hb_3.upd a7 n_3__4
          have hb_9 := hb_9.upd a7 n_4__9.symm
          have hb_4 : Has w7 b_4 ([.slice a l.length c, .int .i64 3, .int .i64 0, .int .i64 0]) _ := hb_4.now (by kernel_rfl)
          refine RL.nil (RC.back ?_)
          refine RC.done (rs := [.cell 4 67]) (vs := [_]) rfl rfl ⟨⟨_, rfl, .inr ⟨[.slice a l.length c, .int .i64 3, .int .i64 0, .int .i64 0], sh67, hb_4.row, rfl⟩⟩, trivial⟩ ?_
          -- end 3
          have he : rowM l o = (l, ⟨3, 0, 0⟩) := (by rw [rowM, if_neg n12, if_neg (by omega), if_pos k18, if_pos (.inr k28)])
          rw [he]
          exact ⟨S, _, _, M, rfl, hc, hF.sub S, Up.refl _ _⟩
        ·
          have n28 : ¬ (l.length : Int) ≤ o.a := (by omega)
          obtain ⟨x, hx⟩ := getSome (l := l) (i := o.a.toNat) (by omega)
          have hxd := getD_of hx
          refine RC.skip (RC.back ?_)
          refine RC.seq ?_
          refine RC.region rfl ?_
          refine RL.ev (.move rfl) rfl rfl ?_
          refine RL.ev (.move rfl) rfl rfl ?_
          refine RL.ev (.field0 fo40_2 rfl) rfl rfl ?_
          refine RL.ev (.load1 sh2 rfl (hb_3.cell rfl)) rfl rfl ?_
          refine RL.ev (.indexS sl36 rfl rfl (by omega) (hl.is (i := 0) (by simp only [List.length_map, List.length_cons, List.length_nil]; omega))) rfl rfl ?_
          refine RL.ev (.load1 sh2 rfl ((hl.sub S).one (enc := i6) (i := o.a.toNat) hx)) rfl rfl ?_
          refine RL.ev (.as (v' := .agg #[.int .i64 0, .int .i64 x, .int .i64 0]) (.buildS ze43 pl43 rfl rfl) (by kernel_rfl)) rfl rfl ?_
          refine RL.ev (.as (v' := .agg #[.slice a l.length c, .int .i64 0, .int .i64 x, .int .i64 0]) (.buildS ze67 pl67 rfl rfl) (by kernel_rfl)) rfl rfl ?_
          refine RL.store sh67 rfl rfl rfl hb_4 (by exact Nat.le_of_ble_eq_true rfl) (by rfl) rfl (fun w8 z8 hb_4 a8 => ?_)
          have S := S.upd a8 ge_4
          have hb_3 := hb_3.upd a8 n_3__4
          have hb_9 := hb_9.upd a8 n_4__9.symm
          have hb_4 : Has w8 b_4 ([.slice a l.length c, .int .i64 0, .int .i64 x, .int .i64 0]) _ := hb_4.now (by kernel_rfl)
          refine RL.nil (RC.back ?_)
          refine RC.done (rs := [.cell 4 67]) (vs := [_]) rfl rfl ⟨⟨_, rfl, .inr ⟨[.slice a l.length c, .int .i64 0, .int .i64 x, .int .i64 0], sh67, hb_4.row, rfl⟩⟩, trivial⟩ ?_
          -- end 4
          have he : rowM l o = (l, ⟨0, x, 0⟩) := (by rw [rowM, if_neg n12, if_neg (by omega), if_pos k18, if_neg (by omega), hxd])
          rw [he]
          exact ⟨S, _, _, M, rfl, hc, hF.sub S, Up.refl _ _⟩
    ·
      have n18 := h3
      refine RC.seq ?_
      refine RC.seq ?_
      refine RC.region rfl ?_
      refine RL.ev (.bin rfl rfl rfl) rfl rfl ?_
      refine RL.ev (.assign rfl) rfl rfl ?_
      refine RL.nil (RC.back ?_)
      refine RC.cond_dec rfl (fun h9 => ?_) (fun h9 => ?_)
      ·
        have k40 := h9
        refine RC.skip (RC.back ?_)
        refine RC.cond_dec rfl (fun h10 => ?_) (fun h10 => absurd h9 h10)
        refine RC.seq ?_
        refine RC.seq ?_
        refine RC.region rfl ?_
        refine RL.ev (.move rfl) rfl rfl ?_
        refine RL.ev (.bin rfl rfl rfl) rfl rfl ?_
        refine RL.nil (RC.back ?_)
        refine RC.cond_dec rfl (fun h11 => ?_) (fun h11 => ?_)
        ·
          have k44 : 200 ≤ l.length := (by omega)
          refine RC.seq ?_
          refine RC.region rfl ?_
          refine RL.ev (.move rfl) rfl rfl ?_
          refine RL.ev (.as (v' := .agg #[.int .i64 5, .int .i64 0, .int .i64 0]) (.buildS ze43 pl43 rfl rfl) (by kernel_rfl)) rfl rfl ?_
          refine RL.ev (.as (v' := .agg #[.slice a l.length c, .int .i64 5, .int .i64 0, .int .i64 0]) (.buildS ze67 pl67 rfl rfl) (by kernel_rfl)) rfl rfl ?_
          refine RL.store sh67 rfl rfl rfl hb_4 (by exact Nat.le_of_ble_eq_true rfl) (by rfl) rfl (fun w12 z12 hb_4 a12 => ?_)
          have S := S.upd a12 ge_4
          have hb_3 := hb_3.upd a12 n_3__4
          have hb_9 := hb_9.upd a12 n_4__9.symm
          have hb_4 : Has w12 b_4 ([.slice a l.length c, .int .i64 5, .int .i64 0, .int .i64 0]) _ := hb_4.now (by kernel_rfl)
          refine RL.nil (RC.back ?_)
          refine RC.done (rs := [.cell 4 67]) (vs := [_]) rfl rfl ⟨⟨_, rfl, .inr ⟨[.slice a l.length c, .int .i64 5, .int .i64 0, .int .i64 0], sh67, hb_4.row, rfl⟩⟩, trivial⟩ ?_
          -- end 5
          have he : rowM l o = (l, ⟨5, 0, 0⟩) := (by rw [rowM, if_neg n12, if_pos (by omega), if_pos k44])
          rw [he]
          exact ⟨S, _, _, M, rfl, hc, hF.sub S, Up.refl _ _⟩
        ·
          have n44 : ¬ 200 ≤ l.length := (by omega)
          refine RC.skip (RC.back ?_)
          refine RC.cutx (α := Option Addr × Nat × List Int) (fun y_ => [(0, .slice a l.length c), (3, .pointer (some ⟨b_3, 0, none⟩)), (4, .pointer (some ⟨b_4, 0, none⟩)), (5, .int .i64 (l.length : Int)), (6, .slice y_.1 (y_.2.2.map fun x => [i6 x]).length y_.2.1)]) (fun y_ w13 => (y_.2.2 = if o.kind = 4 then [o.a] else []) ∧ Ows w.heap.size w13 2 1 (.slice y_.1 (y_.2.2.map fun x => [i6 x]).length y_.2.1) (y_.2.2.map fun x => [i6 x]) ∧ (∀ k, ob (.slice y_.1 (y_.2.2.map fun x => [i6 x]).length y_.2.1) = some k → k ≠ b_3) ∧ (∀ k, ob (.slice y_.1 (y_.2.2.map fun x => [i6 x]).length y_.2.1) = some k → k ≠ b_4) ∧ Has w13 b_3 o.cells 40 ∧ Has w13 b_4 [.slice none 0 0, .int .i64 0, .int .i64 0, .int .i64 0] 67 ∧ Sub w w13) ?_ (fun y_ w13 hJ => ?_)
          ·
            refine RC.seq ?_
            refine RC.region rfl ?_
            refine RL.ev (.field0 fo40_1 rfl) rfl rfl ?_
            refine RL.ev (.load1 sh3 rfl (hb_3.cell rfl)) rfl rfl ?_
            refine RL.ev (.bin rfl rfl rfl) rfl rfl ?_
            refine RL.nil (RC.back ?_)
            refine RC.cond_dec rfl (fun h14 => ?_) (fun h14 => ?_)
            ·
              have k50 : o.kind = 4 := h14
              refine RC.region rfl ?_
              refine RL.ev (.move rfl) rfl rfl ?_
              refine RL.ev (.field0 fo40_2 rfl) rfl rfl ?_
              refine RL.ev (.load1 sh2 rfl (hb_3.cell rfl)) rfl rfl ?_
              refine RL.buildSlice1 sl36 _ ze2 rfl rfl rfl rfl rfl rfl rfl (fun b_54 w_54 e_54 z_54 hb_54 s_54 => ?_)
              have ge_54 := S.le e_54
              have n_3__54 := hb_3.ne e_54
              have n_4__54 := hb_4.ne e_54
              have n_9__54 := hb_9.ne e_54
              have S := S.trans s_54
              have hb_3 := hb_3.sub s_54
              have hb_4 := hb_4.sub s_54
              have hb_9 := hb_9.sub s_54
              have sz_55 := S.size
              have ltb_3_55 := hb_3.lt
              have ltb_4_55 := hb_4.lt
              have ltb_9_55 := hb_9.lt
              have ltb_54_55 := hb_54.lt
              refine RL.append2 (base := w.heap.size) (rows := []) (news := [_]) sl36 ze2 rfl rfl rfl rfl (.inl (Ows.lit0 hb_9 (by omega))) (Has.slOne hb_54) rfl (by intro r hr; rw [List.mem_singleton] at hr; subst hr; rfl) rfl (by (try simp only [List.length_map, List.length_nil, List.length_append, List.length_cons]); omega) (by (try simp only [List.length_map, List.length_nil, List.length_append, List.length_cons]); omega) (by omega) rfl rfl (fun v_55 w_55 hc_55 ho_55 ag_55 ob_55 => ?_)
              have o55 := ho_55 (.inl (by simp))
              have d_o55_b_3 := obNe ob_55 (fun k hk e => n_3__9.symm ((obLit hk).trans e)) hb_3.lt
              have d_o55_b_4 := obNe ob_55 (fun k hk e => n_4__9.symm ((obLit hk).trans e)) hb_4.lt
              have S := S.agrN ag_55 (fun k e => Nat.le_trans (by omega) e.2)
              have hb_3 := hb_3.step ag_55 (fun e => n_3__9.symm (obLit e.1))
              have hb_4 := hb_4.step ag_55 (fun e => n_4__9.symm (obLit e.1))
              obtain ⟨a_55, c_55, rfl, k_55⟩ := o55.form
              refine RL.ev (.assign rfl) rfl rfl ?_
              exact RL.nil (fun a ka => ⟨(a_55, c_55, [o.a]), ⟨by rw [if_pos k50], o55, d_o55_b_3, d_o55_b_4, hb_3, hb_4, S⟩, ka.keep (keep_of (by repeat (first | exact trivial | refine And.intro rfl ?_)))⟩)
            ·
              have n50 : ¬ o.kind = 4 := h14
              exact RC.skip (fun a ka => ⟨(some ⟨b_9, 0, none⟩, 0, []), ⟨by rw [if_neg n50], Ows.lit0 hb_9 (by omega), (fun k hk e => n_3__9.symm ((obLit hk).trans e)), (fun k hk e => n_4__9.symm ((obLit hk).trans e)), hb_3, hb_4, S⟩, ka.keep (keep_of (by repeat (first | exact trivial | refine And.intro rfl ?_)))⟩)
          obtain ⟨a6, c6, R6⟩ := y_
          obtain ⟨hR6, o6, d63, d64, hb_3, hb_4, S⟩ := hJ
          simp only [] at hR6 o6 d63 d64
          have lR6 : R6.length ≤ 1 := (by rw [hR6]; split <;> simp)
          have szB := S.size
          refine RC.seq ?_
          refine RC.region rfl ?_
          refine RL.ev (.move rfl) rfl rfl ?_
          refine RL.ev (.move rfl) rfl rfl ?_
          have sz_58 := S.size
          have ltb_3_58 := hb_3.lt
          have ltb_4_58 := hb_4.lt
          refine RL.append2 (base := w.heap.size) (rows := R6.map fun x => [i6 x]) (news := l.map fun x => [i6 x]) sl36 ze2 rfl rfl rfl rfl (.inl o6) (hl.sub S) (by (try simp only [List.length_map]); first | done | rfl) (by intro r hr; obtain ⟨x, _, rfl⟩ := List.mem_map.1 hr; rfl) (by rw [List.all_eq_true]; intro r hr; obtain ⟨x, _, rfl⟩ := List.mem_map.1 hr; rfl) (by (try simp only [List.length_map, List.length_nil, List.length_append, List.length_cons]); omega) (by (try simp only [List.length_map, List.length_nil, List.length_append, List.length_cons]); omega) (by omega) rfl rfl (fun v_58 w_58 hc_58 ho_58 ag_58 ob_58 => ?_)
          have o58 := ho_58 (.inr o6)
          have d_o58_b_3 := obNe ob_58 d63 hb_3.lt
          have d_o58_b_4 := obNe ob_58 d64 hb_4.lt
          have S := S.agrN ag_58 (fun k e => Nat.le_trans (by omega) e.2)
          have hb_3 := hb_3.step ag_58 (fun e => d63 _ e.1 rfl)
          have hb_4 := hb_4.step ag_58 (fun e => d64 _ e.1 rfl)
          obtain ⟨a_58, c_58, rfl, k_58⟩ := o58.form
          rw [← List.map_append] at o58 d_o58_b_3 d_o58_b_4 ⊢
          obtain ⟨R8, hR8⟩ : ∃ R8, R8 = R6 ++ l := ⟨_, rfl⟩
          rw [← hR8] at o58 d_o58_b_3 d_o58_b_4 ⊢
          have lR8 : R8.length ≤ l.length + 1 := (by rw [hR8, List.length_append]; omega)
          refine RL.ev (.assign rfl) rfl rfl ?_
          refine RL.nil (RC.back ?_)
          refine RC.cutx (α := Option Addr × Nat × List Int) (fun y_ => [(0, .slice a l.length c), (3, .pointer (some ⟨b_3, 0, none⟩)), (4, .pointer (some ⟨b_4, 0, none⟩)), (6, .slice y_.1 (y_.2.2.map fun x => [i6 x]).length y_.2.1)]) (fun y_ w15 => (y_.2.2 = R8 ++ if o.kind = 2 then [o.a] else []) ∧ Ows w.heap.size w15 2 1 (.slice y_.1 (y_.2.2.map fun x => [i6 x]).length y_.2.1) (y_.2.2.map fun x => [i6 x]) ∧ (∀ k, ob (.slice y_.1 (y_.2.2.map fun x => [i6 x]).length y_.2.1) = some k → k ≠ b_4) ∧ Has w15 b_4 [.slice none 0 0, .int .i64 0, .int .i64 0, .int .i64 0] 67 ∧ Sub w w15) ?_ (fun y_ w15 hJ => ?_)
          ·
            refine RC.seq ?_
            refine RC.region rfl ?_
            refine RL.ev (.field0 fo40_1 rfl) rfl rfl ?_
            refine RL.ev (.load1 sh3 rfl (hb_3.cell rfl)) rfl rfl ?_
            refine RL.ev (.bin rfl rfl rfl) rfl rfl ?_
            refine RL.nil (RC.back ?_)
            refine RC.cond_dec rfl (fun h16 => ?_) (fun h16 => ?_)
            ·
              have k61 : o.kind = 2 := h16
              refine RC.region rfl ?_
              refine RL.ev (.move rfl) rfl rfl ?_
              refine RL.ev (.field0 fo40_2 rfl) rfl rfl ?_
              refine RL.ev (.load1 sh2 rfl (hb_3.cell rfl)) rfl rfl ?_
              refine RL.buildSlice1 sl36 _ ze2 rfl rfl rfl rfl rfl rfl rfl (fun b_65 w_65 e_65 z_65 hb_65 s_65 => ?_)
              have ge_65 := S.le e_65
              have n_3__65 := hb_3.ne e_65
              have n_4__65 := hb_4.ne e_65
              have d_o58_b_65 := o58.neNew e_65
              have S := S.trans s_65
              have hb_3 := hb_3.sub s_65
              have hb_4 := hb_4.sub s_65
              have o58 := o58.sub s_65
              have sz_66 := S.size
              have ltb_3_66 := hb_3.lt
              have ltb_4_66 := hb_4.lt
              have ltb_65_66 := hb_65.lt
              refine RL.append2 (base := w.heap.size) (rows := R8.map fun x => [i6 x]) (news := [_]) sl36 ze2 rfl rfl rfl rfl (.inl o58) (Has.slOne hb_65) rfl (by intro r hr; rw [List.mem_singleton] at hr; subst hr; rfl) rfl (by (try simp only [List.length_map, List.length_nil, List.length_append, List.length_cons]); omega) (by (try simp only [List.length_map, List.length_nil, List.length_append, List.length_cons]); omega) (by omega) rfl rfl (fun v_66 w_66 hc_66 ho_66 ag_66 ob_66 => ?_)
              have o66 := ho_66 (.inl (by simp))
              rw [show _ ++ [_] = ((R8 ++ [o.a]).map fun x => [i6 x]) from by rw [List.map_append]; rfl] at o66
              have d_o66_b_3 := obNe ob_66 d_o58_b_3 hb_3.lt
              have d_o66_b_4 := obNe ob_66 d_o58_b_4 hb_4.lt
              have S := S.agrN ag_66 (fun k e => Nat.le_trans (by omega) e.2)
              have hb_3 := hb_3.step ag_66 (fun e => d_o58_b_3 _ e.1 rfl)
              have hb_4 := hb_4.step ag_66 (fun e => d_o58_b_4 _ e.1 rfl)
              obtain ⟨a_66, c_66, rfl, k_66⟩ := o66.form
              refine RL.ev (.assign rfl) rfl rfl ?_
              exact RL.nil (fun a ka => ⟨(a_66, c_66, R8 ++ [o.a]), ⟨by rw [if_pos k61], o66, d_o66_b_4, hb_4, S⟩, ka.keep (keep_of (by repeat (first | exact trivial | refine And.intro rfl ?_)))⟩)
            ·
              have n61 : ¬ o.kind = 2 := h16
              exact RC.skip (fun a ka => ⟨(a_58, c_58, R8), ⟨by rw [if_neg n61, List.append_nil], o58, d_o58_b_4, hb_4, S⟩, ka.keep (keep_of (by repeat (first | exact trivial | refine And.intro rfl ?_)))⟩)
          obtain ⟨a7, c7, R7⟩ := y_
          obtain ⟨hR7, o7, d74, hb_4, S⟩ := hJ
          simp only [] at hR7 o7 d74
          refine RC.seq ?_
          refine RC.region rfl ?_
          refine RL.ev (.move rfl) rfl rfl ?_
          refine RL.ev (.as (v' := .agg #[.slice a7 (R7.map fun x => [i6 x]).length c7, .int .i64 0, .int .i64 0, .int .i64 0]) (.buildS ze67 pl67 rfl rfl) (by kernel_rfl)) rfl rfl ?_
          refine RL.store sh67 rfl rfl rfl hb_4 (by exact Nat.le_of_ble_eq_true rfl) (by rfl) rfl (fun w17 z17 hb_4 a17 => ?_)
          have S := S.upd a17 ge_4
          have o7 := o7.updD a17 d74
          have hb_4 : Has w17 b_4 ([.slice a7 (R7.map fun x => [i6 x]).length c7, .int .i64 0, .int .i64 0, .int .i64 0]) _ := hb_4.now (by kernel_rfl)
          refine RL.nil (RC.back ?_)
          refine RC.done (rs := [.cell 4 67]) (vs := [_]) rfl rfl ⟨⟨_, rfl, .inr ⟨[.slice a7 (R7.map fun x => [i6 x]).length c7, .int .i64 0, .int .i64 0, .int .i64 0], sh67, hb_4.row, rfl⟩⟩, trivial⟩ ?_
          -- end 6
          have he : rowM l o = (R7, ⟨0, 0, 0⟩) := (by rw [rowM, if_neg n12, if_pos (by omega), if_neg n44, hR7, hR8, hR6]; rcases (show o.kind = 2 ∨ o.kind = 4 by omega) with q | q <;> simp [q])
          obtain ⟨_, c9, e9, k9⟩ := o7.form
          cases e9
          rw [List.length_map] at k9
          rw [he]
          exact ⟨S, _, _, _, by rw [List.length_map]; rfl, k9, o7.ft.imp (fun u h => h.sl.1), fun k hk => .inr (o7.ge k hk).1⟩
      ·
        have n40 := h9
        refine RC.region rfl ?_
        refine RL.ev (.bin rfl rfl rfl) rfl rfl ?_
        refine RL.ev (.assign rfl) rfl rfl ?_
        refine RL.nil (RC.back ?_)
        refine RC.cond_dec rfl (fun h18 => ?_) (fun h18 => ?_)
        ·
          have k40 := h18
          refine RC.seq ?_
          refine RC.seq ?_
          refine RC.region rfl ?_
          refine RL.ev (.move rfl) rfl rfl ?_
          refine RL.ev (.bin rfl rfl rfl) rfl rfl ?_
          refine RL.nil (RC.back ?_)
          refine RC.cond_dec rfl (fun h19 => ?_) (fun h19 => ?_)
          ·
            have k44 : 200 ≤ l.length := (by omega)
            refine RC.seq ?_
            refine RC.region rfl ?_
            refine RL.ev (.move rfl) rfl rfl ?_
            refine RL.ev (.as (v' := .agg #[.int .i64 5, .int .i64 0, .int .i64 0]) (.buildS ze43 pl43 rfl rfl) (by kernel_rfl)) rfl rfl ?_
            refine RL.ev (.as (v' := .agg #[.slice a l.length c, .int .i64 5, .int .i64 0, .int .i64 0]) (.buildS ze67 pl67 rfl rfl) (by kernel_rfl)) rfl rfl ?_
            refine RL.store sh67 rfl rfl rfl hb_4 (by exact Nat.le_of_ble_eq_true rfl) (by rfl) rfl (fun w20 z20 hb_4 a20 => ?_)
            have S := S.upd a20 ge_4
            have hb_3 := hb_3.upd a20 n_3__4
            have hb_9 := hb_9.upd a20 n_4__9.symm
            have hb_4 : Has w20 b_4 ([.slice a l.length c, .int .i64 5, .int .i64 0, .int .i64 0]) _ := hb_4.now (by kernel_rfl)
            refine RL.nil (RC.back ?_)
            refine RC.done (rs := [.cell 4 67]) (vs := [_]) rfl rfl ⟨⟨_, rfl, .inr ⟨[.slice a l.length c, .int .i64 5, .int .i64 0, .int .i64 0], sh67, hb_4.row, rfl⟩⟩, trivial⟩ ?_
            -- end 7
            have he : rowM l o = (l, ⟨5, 0, 0⟩) := (by rw [rowM, if_neg n12, if_pos (by omega), if_pos k44])
            rw [he]
            exact ⟨S, _, _, M, rfl, hc, hF.sub S, Up.refl _ _⟩
          ·
            have n44 : ¬ 200 ≤ l.length := (by omega)
            refine RC.skip (RC.back ?_)
            refine RC.cutx (α := Option Addr × Nat × List Int) (fun y_ => [(0, .slice a l.length c), (3, .pointer (some ⟨b_3, 0, none⟩)), (4, .pointer (some ⟨b_4, 0, none⟩)), (5, .int .i64 (l.length : Int)), (6, .slice y_.1 (y_.2.2.map fun x => [i6 x]).length y_.2.1)]) (fun y_ w21 => (y_.2.2 = if o.kind = 4 then [o.a] else []) ∧ Ows w.heap.size w21 2 1 (.slice y_.1 (y_.2.2.map fun x => [i6 x]).length y_.2.1) (y_.2.2.map fun x => [i6 x]) ∧ (∀ k, ob (.slice y_.1 (y_.2.2.map fun x => [i6 x]).length y_.2.1) = some k → k ≠ b_3) ∧ (∀ k, ob (.slice y_.1 (y_.2.2.map fun x => [i6 x]).length y_.2.1) = some k → k ≠ b_4) ∧ Has w21 b_3 o.cells 40 ∧ Has w21 b_4 [.slice none 0 0, .int .i64 0, .int .i64 0, .int .i64 0] 67 ∧ Sub w w21) ?_ (fun y_ w21 hJ => ?_)
            ·
              refine RC.seq ?_
              refine RC.region rfl ?_
              refine RL.ev (.field0 fo40_1 rfl) rfl rfl ?_
              refine RL.ev (.load1 sh3 rfl (hb_3.cell rfl)) rfl rfl ?_
              refine RL.ev (.bin rfl rfl rfl) rfl rfl ?_
              refine RL.nil (RC.back ?_)
              refine RC.cond_dec rfl (fun h22 => ?_) (fun h22 => ?_)
              ·
                have k50 : o.kind = 4 := h22
                refine RC.region rfl ?_
                refine RL.ev (.move rfl) rfl rfl ?_
                refine RL.ev (.field0 fo40_2 rfl) rfl rfl ?_
                refine RL.ev (.load1 sh2 rfl (hb_3.cell rfl)) rfl rfl ?_
                refine RL.buildSlice1 sl36 _ ze2 rfl rfl rfl rfl rfl rfl rfl (fun b_54 w_54 e_54 z_54 hb_54 s_54 => ?_)
                have ge_54 := S.le e_54
                have n_3__54 := hb_3.ne e_54
                have n_4__54 := hb_4.ne e_54
                have n_9__54 := hb_9.ne e_54
                have S := S.trans s_54
                have hb_3 := hb_3.sub s_54
                have hb_4 := hb_4.sub s_54
                have hb_9 := hb_9.sub s_54
                have sz_55 := S.size
                have ltb_3_55 := hb_3.lt
                have ltb_4_55 := hb_4.lt
                have ltb_9_55 := hb_9.lt
                have ltb_54_55 := hb_54.lt
                refine RL.append2 (base := w.heap.size) (rows := []) (news := [_]) sl36 ze2 rfl rfl rfl rfl (.inl (Ows.lit0 hb_9 (by omega))) (Has.slOne hb_54) rfl (by intro r hr; rw [List.mem_singleton] at hr; subst hr; rfl) rfl (by (try simp only [List.length_map, List.length_nil, List.length_append, List.length_cons]); omega) (by (try simp only [List.length_map, List.length_nil, List.length_append, List.length_cons]); omega) (by omega) rfl rfl (fun v_55 w_55 hc_55 ho_55 ag_55 ob_55 => ?_)
                have o55 := ho_55 (.inl (by simp))
                have d_o55_b_3 := obNe ob_55 (fun k hk e => n_3__9.symm ((obLit hk).trans e)) hb_3.lt
                have d_o55_b_4 := obNe ob_55 (fun k hk e => n_4__9.symm ((obLit hk).trans e)) hb_4.lt
                have S := S.agrN ag_55 (fun k e => Nat.le_trans (by omega) e.2)
                have hb_3 := hb_3.step ag_55 (fun e => n_3__9.symm (obLit e.1))
                have hb_4 := hb_4.step ag_55 (fun e => n_4__9.symm (obLit e.1))
                obtain ⟨a_55, c_55, rfl, k_55⟩ := o55.form
                refine RL.ev (.assign rfl) rfl rfl ?_
                exact RL.nil (fun a ka => ⟨(a_55, c_55, [o.a]), ⟨by rw [if_pos k50], o55, d_o55_b_3, d_o55_b_4, hb_3, hb_4, S⟩, ka.keep (keep_of (by repeat (first | exact trivial | refine And.intro rfl ?_)))⟩)
              ·
                have n50 : ¬ o.kind = 4 := h22
                exact RC.skip (fun a ka => ⟨(some ⟨b_9, 0, none⟩, 0, []), ⟨by rw [if_neg n50], Ows.lit0 hb_9 (by omega), (fun k hk e => n_3__9.symm ((obLit hk).trans e)), (fun k hk e => n_4__9.symm ((obLit hk).trans e)), hb_3, hb_4, S⟩, ka.keep (keep_of (by repeat (first | exact trivial | refine And.intro rfl ?_)))⟩)
            obtain ⟨a6, c6, R6⟩ := y_
            obtain ⟨hR6, o6, d63, d64, hb_3, hb_4, S⟩ := hJ
            simp only [] at hR6 o6 d63 d64
            have lR6 : R6.length ≤ 1 := (by rw [hR6]; split <;> simp)
            have szB := S.size
            refine RC.seq ?_
            refine RC.region rfl ?_
            refine RL.ev (.move rfl) rfl rfl ?_
            refine RL.ev (.move rfl) rfl rfl ?_
            have sz_58 := S.size
            have ltb_3_58 := hb_3.lt
            have ltb_4_58 := hb_4.lt
            refine RL.append2 (base := w.heap.size) (rows := R6.map fun x => [i6 x]) (news := l.map fun x => [i6 x]) sl36 ze2 rfl rfl rfl rfl (.inl o6) (hl.sub S) (by (try simp only [List.length_map]); first | done | rfl) (by intro r hr; obtain ⟨x, _, rfl⟩ := List.mem_map.1 hr; rfl) (by rw [List.all_eq_true]; intro r hr; obtain ⟨x, _, rfl⟩ := List.mem_map.1 hr; rfl) (by (try simp only [List.length_map, List.length_nil, List.length_append, List.length_cons]); omega) (by (try simp only [List.length_map, List.length_nil, List.length_append, List.length_cons]); omega) (by omega) rfl rfl (fun v_58 w_58 hc_58 ho_58 ag_58 ob_58 => ?_)
            have o58 := ho_58 (.inr o6)
            have d_o58_b_3 := obNe ob_58 d63 hb_3.lt
            have d_o58_b_4 := obNe ob_58 d64 hb_4.lt
            have S := S.agrN ag_58 (fun k e => Nat.le_trans (by omega) e.2)
            have hb_3 := hb_3.step ag_58 (fun e => d63 _ e.1 rfl)
            have hb_4 := hb_4.step ag_58 (fun e => d64 _ e.1 rfl)
            obtain ⟨a_58, c_58, rfl, k_58⟩ := o58.form
            rw [← List.map_append] at o58 d_o58_b_3 d_o58_b_4 ⊢
            obtain ⟨R8, hR8⟩ : ∃ R8, R8 = R6 ++ l := ⟨_, rfl⟩
            rw [← hR8] at o58 d_o58_b_3 d_o58_b_4 ⊢
            have lR8 : R8.length ≤ l.length + 1 := (by rw [hR8, List.length_append]; omega)
            refine RL.ev (.assign rfl) rfl rfl ?_
            refine RL.nil (RC.back ?_)
            refine RC.cutx (α := Option Addr × Nat × List Int) (fun y_ => [(0, .slice a l.length c), (3, .pointer (some ⟨b_3, 0, none⟩)), (4, .pointer (some ⟨b_4, 0, none⟩)), (6, .slice y_.1 (y_.2.2.map fun x => [i6 x]).length y_.2.1)]) (fun y_ w23 => (y_.2.2 = R8 ++ if o.kind = 2 then [o.a] else []) ∧ Ows w.heap.size w23 2 1 (.slice y_.1 (y_.2.2.map fun x => [i6 x]).length y_.2.1) (y_.2.2.map fun x => [i6 x]) ∧ (∀ k, ob (.slice y_.1 (y_.2.2.map fun x => [i6 x]).length y_.2.1) = some k → k ≠ b_4) ∧ Has w23 b_4 [.slice none 0 0, .int .i64 0, .int .i64 0, .int .i64 0] 67 ∧ Sub w w23) ?_ (fun y_ w23 hJ => ?_)
            ·
              refine RC.seq ?_
              refine RC.region rfl ?_
              refine RL.ev (.field0 fo40_1 rfl) rfl rfl ?_
              refine RL.ev (.load1 sh3 rfl (hb_3.cell rfl)) rfl rfl ?_
              refine RL.ev (.bin rfl rfl rfl) rfl rfl ?_
              refine RL.nil (RC.back ?_)
              refine RC.cond_dec rfl (fun h24 => ?_) (fun h24 => ?_)
              ·
                have k61 : o.kind = 2 := h24
                refine RC.region rfl ?_
                refine RL.ev (.move rfl) rfl rfl ?_
                refine RL.ev (.field0 fo40_2 rfl) rfl rfl ?_
                refine RL.ev (.load1 sh2 rfl (hb_3.cell rfl)) rfl rfl ?_
                refine RL.buildSlice1 sl36 _ ze2 rfl rfl rfl rfl rfl rfl rfl (fun b_65 w_65 e_65 z_65 hb_65 s_65 => ?_)
                have ge_65 := S.le e_65
                have n_3__65 := hb_3.ne e_65
                have n_4__65 := hb_4.ne e_65
                have d_o58_b_65 := o58.neNew e_65
                have S := S.trans s_65
                have hb_3 := hb_3.sub s_65
                have hb_4 := hb_4.sub s_65
                have o58 := o58.sub s_65
                have sz_66 := S.size
                have ltb_3_66 := hb_3.lt
                have ltb_4_66 := hb_4.lt
                have ltb_65_66 := hb_65.lt
                refine RL.append2 (base := w.heap.size) (rows := R8.map fun x => [i6 x]) (news := [_]) sl36 ze2 rfl rfl rfl rfl (.inl o58) (Has.slOne hb_65) rfl (by intro r hr; rw [List.mem_singleton] at hr; subst hr; rfl) rfl (by (try simp only [List.length_map, List.length_nil, List.length_append, List.length_cons]); omega) (by (try simp only [List.length_map, List.length_nil, List.length_append, List.length_cons]); omega) (by omega) rfl rfl (fun v_66 w_66 hc_66 ho_66 ag_66 ob_66 => ?_)
                have o66 := ho_66 (.inl (by simp))
                rw [show _ ++ [_] = ((R8 ++ [o.a]).map fun x => [i6 x]) from by rw [List.map_append]; rfl] at o66
                have d_o66_b_3 := obNe ob_66 d_o58_b_3 hb_3.lt
                have d_o66_b_4 := obNe ob_66 d_o58_b_4 hb_4.lt
                have S := S.agrN ag_66 (fun k e => Nat.le_trans (by omega) e.2)
                have hb_3 := hb_3.step ag_66 (fun e => d_o58_b_3 _ e.1 rfl)
                have hb_4 := hb_4.step ag_66 (fun e => d_o58_b_4 _ e.1 rfl)
                obtain ⟨a_66, c_66, rfl, k_66⟩ := o66.form
                refine RL.ev (.assign rfl) rfl rfl ?_
                exact RL.nil (fun a ka => ⟨(a_66, c_66, R8 ++ [o.a]), ⟨by rw [if_pos k61], o66, d_o66_b_4, hb_4, S⟩, ka.keep (keep_of (by repeat (first | exact trivial | refine And.intro rfl ?_)))⟩)
              ·
                have n61 : ¬ o.kind = 2 := h24
                exact RC.skip (fun a ka => ⟨(a_58, c_58, R8), ⟨by rw [if_neg n61, List.append_nil], o58, d_o58_b_4, hb_4, S⟩, ka.keep (keep_of (by repeat (first | exact trivial | refine And.intro rfl ?_)))⟩)
            obtain ⟨a7, c7, R7⟩ := y_
            obtain ⟨hR7, o7, d74, hb_4, S⟩ := hJ
            simp only [] at hR7 o7 d74
            refine RC.seq ?_
            refine RC.region rfl ?_
            refine RL.ev (.move rfl) rfl rfl ?_
            refine RL.ev (.as (v' := .agg #[.slice a7 (R7.map fun x => [i6 x]).length c7, .int .i64 0, .int .i64 0, .int .i64 0]) (.buildS ze67 pl67 rfl rfl) (by kernel_rfl)) rfl rfl ?_
            refine RL.store sh67 rfl rfl rfl hb_4 (by exact Nat.le_of_ble_eq_true rfl) (by rfl) rfl (fun w25 z25 hb_4 a25 => ?_)
            have S := S.upd a25 ge_4
            have o7 := o7.updD a25 d74
            have hb_4 : Has w25 b_4 ([.slice a7 (R7.map fun x => [i6 x]).length c7, .int .i64 0, .int .i64 0, .int .i64 0]) _ := hb_4.now (by kernel_rfl)
            refine RL.nil (RC.back ?_)
            refine RC.done (rs := [.cell 4 67]) (vs := [_]) rfl rfl ⟨⟨_, rfl, .inr ⟨[.slice a7 (R7.map fun x => [i6 x]).length c7, .int .i64 0, .int .i64 0, .int .i64 0], sh67, hb_4.row, rfl⟩⟩, trivial⟩ ?_
            -- end 8
            have he : rowM l o = (R7, ⟨0, 0, 0⟩) := (by rw [rowM, if_neg n12, if_pos (by omega), if_neg n44, hR7, hR8, hR6]; rcases (show o.kind = 2 ∨ o.kind = 4 by omega) with q | q <;> simp [q])
            obtain ⟨_, c9, e9, k9⟩ := o7.form
            cases e9
            rw [List.length_map] at k9
            rw [he]
            exact ⟨S, _, _, _, by rw [List.length_map]; rfl, k9, o7.ft.imp (fun u h => h.sl.1), fun k hk => .inr (o7.ge k hk).1⟩
        ·
          have n40 := h18
          refine RC.skip (RC.back ?_)
          refine RC.seq ?_
          refine RC.seq ?_
          refine RC.region rfl ?_
          refine RL.ev (.move rfl) rfl rfl ?_
          refine RL.ev (.bin rfl rfl rfl) rfl rfl ?_
          refine RL.nil (RC.back ?_)
          refine RC.cond_dec rfl (fun h26 => ?_) (fun h26 => ?_)
          ·
            have k70 : l.length = 0 := (by omega)
            refine RC.seq ?_
            refine RC.region rfl ?_
            refine RL.ev (.move rfl) rfl rfl ?_
            refine RL.ev (.as (v' := .agg #[.int .i64 3, .int .i64 0, .int .i64 0]) (.buildS ze43 pl43 rfl rfl) (by kernel_rfl)) rfl rfl ?_
            refine RL.ev (.as (v' := .agg #[.slice a l.length c, .int .i64 3, .int .i64 0, .int .i64 0]) (.buildS ze67 pl67 rfl rfl) (by kernel_rfl)) rfl rfl ?_
            refine RL.store sh67 rfl rfl rfl hb_4 (by exact Nat.le_of_ble_eq_true rfl) (by rfl) rfl (fun w27 z27 hb_4 a27 => ?_)
            have S := S.upd a27 ge_4
            have hb_3 := hb_3.upd a27 n_3__4
            have hb_9 := hb_9.upd a27 n_4__9.symm
            have hb_4 : Has w27 b_4 ([.slice a l.length c, .int .i64 3, .int .i64 0, .int .i64 0]) _ := hb_4.now (by kernel_rfl)
            refine RL.nil (RC.back ?_)
            refine RC.done (rs := [.cell 4 67]) (vs := [_]) rfl rfl ⟨⟨_, rfl, .inr ⟨[.slice a l.length c, .int .i64 3, .int .i64 0, .int .i64 0], sh67, hb_4.row, rfl⟩⟩, trivial⟩ ?_
            -- end 9
            have he : rowM l o = (l, ⟨3, 0, 0⟩) := (by rw [rowM, if_neg n12, if_neg (by omega), if_neg n18, if_pos k70])
            rw [he]
            exact ⟨S, _, _, M, rfl, hc, hF.sub S, Up.refl _ _⟩
          ·
            have n70 : 0 < l.length := (by omega)
            obtain ⟨x, hx⟩ := getSome (l := l) (i := l.length - 1) (by omega)
            have hxd := getD_of hx
            obtain ⟨y, hy⟩ := getSome (l := l) (i := 0) n70
            have hyd := getD_of hy
            refine RC.skip (RC.back ?_)
            refine RC.seq ?_
            refine RC.seq ?_
            refine RC.region rfl ?_
            refine RL.ev (.field0 fo40_1 rfl) rfl rfl ?_
            refine RL.ev (.load1 sh3 rfl (hb_3.cell rfl)) rfl rfl ?_
            refine RL.ev (.bin rfl rfl rfl) rfl rfl ?_
            refine RL.nil (RC.back ?_)
            refine RC.cond_dec rfl (fun h28 => ?_) (fun h28 => ?_)
            ·
              have k76 := h28
              refine RC.seq ?_
              refine RC.drawD (fun k => k = b_4) [11] w_9.heap.size 12 rfl rfl mxo (fun w29 s30 => ?_)
              have hNN : ∀ k, ((k = b_4) ∨ w_9.heap.size ≤ k) → w.heap.size ≤ k := fun k e => e.elim (fun e => e ▸ ge_4) (fun e => Nat.le_trans S.size e)
              have ent_S := S.size
              have hN0 : ∀ k, w_9.heap.size ≤ k → w.heap.size ≤ k := fun k e => Nat.le_trans S.size e
              have ltD_b_3 := hb_3.lt
              have ltD_b_4 := hb_4.lt
              have ltD_b_9 := hb_9.lt
              have szD := Nat.le_refl w_9.heap.size
              have S := S.trans s30
              have hb_3 := hb_3.sub s30
              have hb_4 := hb_4.sub s30
              have hb_9 := hb_9.sub s30
              have szD := Nat.le_trans szD s30.size
              refine RD.take 0 rfl (by kernel_rfl) (by kernel_rfl) (by kernel_rfl) (fun w' s' => .move rfl) rfl rfl ?_
              refine RD.take 1 rfl (by kernel_rfl) (by kernel_rfl) (by kernel_rfl) (fun w' s' => .move rfl) rfl rfl ?_
              refine RD.take 2 rfl (by kernel_rfl) (by kernel_rfl) (by kernel_rfl) (fun w' s' => .as (.bin rfl rfl rfl) (wi64 (y := ((l.length - 1 : Nat) : Int)) (by omega) (by omega))) rfl rfl ?_
              refine RD.take 3 rfl (by kernel_rfl) (by kernel_rfl) (by kernel_rfl) (fun w' s' => .as (v' := .slice a (l.take (l.length - 1)).length c) (.sliceHi sl36 rfl rfl (by omega)) (by rw [List.length_take, Nat.min_eq_left (by omega)]; rfl)) rfl rfl ?_
              refine RD.take 4 rfl (by kernel_rfl) (by kernel_rfl) (by kernel_rfl) (fun w' s' => .move rfl) rfl rfl ?_
              refine RD.take 5 rfl (by kernel_rfl) (by kernel_rfl) (by kernel_rfl) (fun w' s' => .move rfl) rfl rfl ?_
              refine RD.take 6 rfl (by kernel_rfl) (by kernel_rfl) (by kernel_rfl) (fun w' s' => .as (.bin rfl rfl rfl) (wi64 (y := ((l.length - 1 : Nat) : Int)) (by omega) (by omega))) rfl rfl ?_
              refine RD.take 7 rfl (by kernel_rfl) (by kernel_rfl) (by kernel_rfl) (fun w' s' => .indexS sl36 rfl rfl (by omega) (hl.is (i := 0) (by simp only [List.length_map, List.length_cons, List.length_nil]; omega))) rfl rfl ?_
              refine RD.take 8 rfl (by kernel_rfl) (by kernel_rfl) (by kernel_rfl) (fun w' s' => .load1 sh2 rfl ((hl.sub (S.agrN s' hNN)).one (enc := i6) (i := l.length - 1) hx)) rfl rfl ?_
              refine RD.take 9 rfl (by kernel_rfl) (by kernel_rfl) (by kernel_rfl) (fun w' s' => .as (v' := .agg #[.int .i64 0, .int .i64 x, .int .i64 0]) (.buildS ze43 pl43 rfl rfl) (by kernel_rfl)) rfl rfl ?_
              refine RD.take 10 rfl (by kernel_rfl) (by kernel_rfl) (by kernel_rfl) (fun w' s' => .as (v' := .agg #[.slice a (l.take (l.length - 1)).length c, .int .i64 0, .int .i64 x, .int .i64 0]) (.buildS ze67 pl67 rfl rfl) (by kernel_rfl)) rfl rfl ?_
              refine RD.all [11] (by kernel_rfl) rfl (RDs.cons rfl ?_ (RDs.nil))
              refine RL.store sh67 rfl rfl rfl hb_4 (by exact Nat.le_of_ble_eq_true rfl) (by rfl) rfl (fun w31 z31 hb_4 a31 => ?_)
              have S := S.upd a31 ge_4
              have hb_3 := hb_3.upd a31 n_3__4
              have hb_9 := hb_9.upd a31 n_4__9.symm
              have szD := Nat.le_trans szD a31.size
              have hb_4 : Has w31 b_4 ([.slice a (l.take (l.length - 1)).length c, .int .i64 0, .int .i64 x, .int .i64 0]) _ := hb_4.now (by kernel_rfl)
              refine RD.backW rfl (a31.mono fun k _ e => e ▸ (.inl (rfl))) ?_
              refine RD.done (by kernel_rfl) (RC.back ?_)
              refine RC.done (rs := [.cell 4 67]) (vs := [_]) rfl rfl ⟨⟨_, rfl, .inr ⟨[.slice a (l.take (l.length - 1)).length c, .int .i64 0, .int .i64 x, .int .i64 0], sh67, hb_4.row, rfl⟩⟩, trivial⟩ ?_
              -- end 10
              have he : rowM l o = (l.take (l.length - 1), ⟨0, x, 0⟩) := (by rw [rowM, if_neg n12, if_neg (by omega), if_neg n18, if_neg (by omega), if_pos k76, hxd])
              rw [he]
              exact ⟨S, _, _, M, rfl, by rw [List.length_take]; omega, (hF.sub S).imp (fun u h => slTakeM h _), Up.refl _ _⟩
            ·
              have n76 := h28
              refine RC.skip (RC.back ?_)
              refine RC.seq ?_
              refine RC.drawD (fun k => k = b_4) [7] w_9.heap.size 8 rfl rfl mxo (fun w32 s33 => ?_)
              have hNN : ∀ k, ((k = b_4) ∨ w_9.heap.size ≤ k) → w.heap.size ≤ k := fun k e => e.elim (fun e => e ▸ ge_4) (fun e => Nat.le_trans S.size e)
              have ent_S := S.size
              have hN0 : ∀ k, w_9.heap.size ≤ k → w.heap.size ≤ k := fun k e => Nat.le_trans S.size e
              have ltD_b_3 := hb_3.lt
              have ltD_b_4 := hb_4.lt
              have ltD_b_9 := hb_9.lt
              have szD := Nat.le_refl w_9.heap.size
              have S := S.trans s33
              have hb_3 := hb_3.sub s33
              have hb_4 := hb_4.sub s33
              have hb_9 := hb_9.sub s33
              have szD := Nat.le_trans szD s33.size
              refine RD.take 0 rfl (by kernel_rfl) (by kernel_rfl) (by kernel_rfl) (fun w' s' => .move rfl) rfl rfl ?_
              refine RD.take 1 rfl (by kernel_rfl) (by kernel_rfl) (by kernel_rfl) (fun w' s' => .as (v' := .slice (if c = 1 then a else a.map (·.add (1 * 1))) (l.drop 1).length (c - 1)) (.sliceLo sl36 rfl rfl (by omega)) (by rw [List.length_drop]; rfl)) rfl rfl ?_
              refine RD.take 2 rfl (by kernel_rfl) (by kernel_rfl) (by kernel_rfl) (fun w' s' => .move rfl) rfl rfl ?_
              refine RD.take 3 rfl (by kernel_rfl) (by kernel_rfl) (by kernel_rfl) (fun w' s' => .indexS sl36 rfl rfl (by omega) (hl.is (i := 0) (by simp only [List.length_map, List.length_cons, List.length_nil]; omega))) rfl rfl ?_
              refine RD.take 4 rfl (by kernel_rfl) (by kernel_rfl) (by kernel_rfl) (fun w' s' => .load1 sh2 rfl ((hl.sub (S.agrN s' hNN)).one (enc := i6) (i := 0) hy)) rfl rfl ?_
              refine RD.take 5 rfl (by kernel_rfl) (by kernel_rfl) (by kernel_rfl) (fun w' s' => .as (v' := .agg #[.int .i64 0, .int .i64 y, .int .i64 0]) (.buildS ze43 pl43 rfl rfl) (by kernel_rfl)) rfl rfl ?_
              refine RD.take 6 rfl (by kernel_rfl) (by kernel_rfl) (by kernel_rfl) (fun w' s' => .as (v' := .agg #[.slice (if c = 1 then a else a.map (·.add (1 * 1))) (l.drop 1).length (c - 1), .int .i64 0, .int .i64 y, .int .i64 0]) (.buildS ze67 pl67 rfl rfl) (by kernel_rfl)) rfl rfl ?_
              refine RD.all [7] (by kernel_rfl) rfl (RDs.cons rfl ?_ (RDs.nil))
              refine RL.store sh67 rfl rfl rfl hb_4 (by exact Nat.le_of_ble_eq_true rfl) (by rfl) rfl (fun w34 z34 hb_4 a34 => ?_)
              have S := S.upd a34 ge_4
              have hb_3 := hb_3.upd a34 n_3__4
              have hb_9 := hb_9.upd a34 n_4__9.symm
              have szD := Nat.le_trans szD a34.size
              have hb_4 : Has w34 b_4 ([.slice (if c = 1 then a else a.map (·.add (1 * 1))) (l.drop 1).length (c - 1), .int .i64 0, .int .i64 y, .int .i64 0]) _ := hb_4.now (by kernel_rfl)
              refine RD.backW rfl (a34.mono fun k _ e => e ▸ (.inl (rfl))) ?_
              refine RD.done (by kernel_rfl) (RC.back ?_)
              refine RC.done (rs := [.cell 4 67]) (vs := [_]) rfl rfl ⟨⟨_, rfl, .inr ⟨[.slice (if c = 1 then a else a.map (·.add (1 * 1))) (l.drop 1).length (c - 1), .int .i64 0, .int .i64 y, .int .i64 0], sh67, hb_4.row, rfl⟩⟩, trivial⟩ ?_
              -- end 11
              have he : rowM l o = (l.drop 1, ⟨0, y, 0⟩) := (by rw [rowM, if_neg n12, if_neg (by omega), if_neg n18, if_neg (by omega), if_neg n76, hyd])
              rw [he]
              exact ⟨S, _, _, M, rfl, by rw [List.length_drop]; show _ ≤ c - 1; omega, (hF.sub S).imp (fun u h => slDropM h 1 hc), Up.refl _ _⟩
end Go.Proofs.Ytlhnnleaiinjaaa
set_option linter.unusedVariables false
set_option linter.unusedSimpArgs false
namespace Go.Proofs.Ytlhnnleaiinjaaa
open Go Go.XL
theorem c_refAt6 (l : List It) (a : Option Addr) (c m : Nat) (hm : m = l.length) (key : Int) (w : World) (hl : Sl w a 2 (l.map It.cells)) (hb : l.length ≤ 1000000) :
    FC Try.prog 40 [.slice a m c, .int .i64 key] w (fun v w' => Sub w w' ∧ ∃ n, v = .int .i64 n ∧ (n < 0 ∧ hasK l key = false ∨ 0 ≤ n ∧ hasK l key = true ∧ ∃ y, l[n.toNat]? = some y ∧ y.k = key)) := by
  subst hm
  refine FC.intro Try.func40 rfl Try.ntmps40 rfl ?_
  have S := Sub.refl w
  refine RC.seq ?_
  refine RC.region rfl ?_
  refine RL.ev (.assign rfl) rfl rfl ?_
  refine RL.nil (RC.back ?_)
  refine RC.seq ?_
  refine RC.seq ?_
  refine RC.region rfl ?_
  refine RL.ev (.move rfl) rfl rfl ?_
  refine RL.ev (.len sl35 rfl) rfl rfl ?_
  refine RL.ev (.move rfl) rfl rfl ?_
  refine RL.nil (RC.back ?_)
  refine RC.block ?_
  refine RC.loop (α := Nat) (fun i => [(1, .int .i64 key), (7, .slice a l.length c), (8, .int .i64 (l.length : Int)), (9, .int .i64 (i : Int))]) (fun i w1 => (i ≤ l.length ∧ ∀ y ∈ l.take i, ¬ y.k = key) ∧ Sub w w1) (fun i => l.length - i) 0 (keep_of (by repeat (first | exact trivial | refine And.intro rfl ?_))) (⟨⟨Nat.zero_le _, by simp⟩, S⟩) (fun i w1 hJ => ?_)
  obtain ⟨⟨hi, hp⟩, S⟩ := hJ
  refine RC.seq ?_
  refine RC.region rfl ?_
  refine RL.ev (.bin rfl rfl rfl) rfl rfl ?_
  refine RL.nil (RC.back ?_)
  refine RC.seq ?_
  refine RC.cond_dec rfl (fun h2 => ?_) (fun h2 => ?_)
  ·
    obtain ⟨x, hx⟩ := getSome (l := l) (i := i) (by omega)
    refine RC.skip (RC.back ?_)
    refine RC.seq ?_
    refine RC.block ?_
    refine RC.seq ?_
    refine RC.region rfl ?_
    refine RL.ev (.move rfl) rfl rfl ?_
    refine RL.ev (.indexS sl35 rfl rfl (by omega) (hl.is (i := 0) (by simp only [List.length_map, List.length_cons, List.length_nil]; omega))) rfl rfl ?_
    refine RL.ev (.loadR (x.cells) sh82 rfl ((hl.sub S).rowAt (enc := It.cells) (i := i) hx) rfl) rfl rfl ?_
    refine RL.alloc ze82 rfl rfl (fun b_6 w_6 e_6 z_6 hb_6 s_6 => ?_)
    have ge_6 := S.le e_6
    have S := S.trans s_6
    refine RL.ev (.assign rfl) rfl rfl ?_
    refine RL.store sh82 rfl rfl rfl hb_6 (by exact Nat.le_of_ble_eq_true rfl) (by rfl) rfl (fun w3 z3 hb_6 a3 => ?_)
    have S := S.upd a3 ge_6
    have hb_6 : Has w3 b_6 (x.cells) _ := hb_6.now (by kernel_rfl)
    refine RL.nil (RC.back ?_)
    refine RC.seq ?_
    refine RC.region rfl ?_
    refine RL.ev (.field0 fo82_0 rfl) rfl rfl ?_
    refine RL.ev (.load1 sh2 rfl (hb_6.cell rfl)) rfl rfl ?_
    refine RL.ev (.move rfl) rfl rfl ?_
    refine RL.ev (.bin rfl rfl rfl) rfl rfl ?_
    refine RL.nil (RC.back ?_)
    refine RC.cond_dec rfl (fun h4 => ?_) (fun h4 => ?_)
    ·
      have hk := h4
      refine RC.seq ?_
      refine RC.region rfl ?_
      refine RL.ev (.move rfl) rfl rfl ?_
      refine RL.ev (.assign rfl) rfl rfl ?_
      refine RL.nil (RC.back ?_)
      refine RC.done (rs := [.tmp 4]) (vs := [_]) rfl rfl ⟨rfl, trivial⟩ ?_
      -- end 1
      exact ⟨S, _, rfl, .inr ⟨by omega, hasK_iff.2 ⟨x, List.mem_of_getElem? hx, hk⟩, x, hx, hk⟩⟩
    ·
      have hk := h4
      refine RC.skip (RC.back ?_)
      refine RC.region rfl ?_
      refine RL.ev (.as (.bin rfl rfl rfl) (wi64 (y := ((i + 1 : Nat) : Int)) (by omega) (by omega))) rfl rfl ?_
      refine RL.ev (.move rfl) rfl rfl ?_
      exact RL.nil (fun a ka => ⟨i + 1, ⟨⟨by omega, fun y hy => by rw [List.take_add_one, hx] at hy; rcases List.mem_append.1 hy with hy | hy; exact hp y hy; (have e : y = x := (by simpa using hy)); rw [e]; exact hk⟩, S⟩, by omega, ka.keep (keep_of (by repeat (first | exact trivial | refine And.intro rfl ?_)))⟩)
  ·
    obtain rfl : i = l.length := (by omega)
    rw [List.take_length] at hp
    refine RC.exit rfl (RC.back ?_)
    refine RC.seq ?_
    refine RC.region rfl ?_
    refine RL.ev (.assign rfl) rfl rfl ?_
    refine RL.nil (RC.back ?_)
    refine RC.done (rs := [.tmp 4]) (vs := [_]) rfl rfl ⟨rfl, trivial⟩ ?_
    -- end 2
    exact ⟨S, _, rfl, .inl ⟨by decide, hasK_no hp⟩⟩
end Go.Proofs.Ytlhnnleaiinjaaa
set_option linter.unusedVariables false
set_option linter.unusedSimpArgs false
namespace Go.Proofs.Ytlhnnleaiinjaaa
open Go Go.XL
theorem c_refDel (l : List It) (a : Option Addr) (c m : Nat) (hm : m = l.length) (key : Int) (w : World) (hl : Sl w a 2 (l.map It.cells)) (hb : l.length ≤ 1000000) :
    FC Try.prog 44 [.slice a m c, .int .i64 key] w (fun u w' => ∃ a' c', u = .slice a' ((delL l key).map It.cells).length c' ∧ Ows w.heap.size w' 82 2 (.slice a' ((delL l key).map It.cells).length c') ((delL l key).map It.cells) ∧ Sub w w') := by
  subst hm
  refine FC.intro Try.func44 rfl Try.ntmps44 rfl ?_
  have S := Sub.refl w
  refine RC.seq ?_
  refine RC.region rfl ?_
  refine RL.ev (.assign rfl) rfl rfl ?_
  refine RL.nil (RC.back ?_)
  refine RC.seq ?_
  refine RC.region rfl ?_
  refine RL.buildSlice0 sl35 rfl rfl (fun b_8 w_8 e_8 z_8 hb_8 s_8 => ?_)
  have ge_8 := S.le e_8
  have S := S.trans s_8
  refine RL.ev (.assign rfl) rfl rfl ?_
  refine RL.nil (RC.back ?_)
  refine RC.seq ?_
  refine RC.seq ?_
  refine RC.region rfl ?_
  refine RL.ev (.move rfl) rfl rfl ?_
  refine RL.ev (.len sl35 rfl) rfl rfl ?_
  refine RL.ev (.move rfl) rfl rfl ?_
  refine RL.nil (RC.back ?_)
  refine RC.block ?_
  refine RC.loop (α := Nat × Option Addr × Nat × Nat) (fun x => [(1, .int .i64 key), (5, .slice x.2.1 x.2.2.1 x.2.2.2), (9, .slice a l.length c), (10, .int .i64 (l.length : Int)), (11, .int .i64 (x.1 : Int))]) (fun x w1 => x.1 ≤ l.length ∧ Ows w.heap.size w1 82 2 (.slice x.2.1 x.2.2.1 x.2.2.2) ((delL (l.take x.1) key).map It.cells) ∧ Sub w w1) (fun x => l.length - x.1) (0, some ⟨b_8, 0, none⟩, 0, 0) (keep_of (by repeat (first | exact trivial | refine And.intro rfl ?_))) (⟨Nat.zero_le _, Ows.lit0 hb_8 (by omega), S⟩) (fun x w1 hJ => ?_)
  obtain ⟨i, ao, mo, co⟩ := x; obtain ⟨hi, o, S⟩ := hJ; simp only [] at hi o; obtain rfl := o.sl.2; have szB := S.size; have hdl : (delL (l.take i) key).length ≤ i := Nat.le_trans (List.length_filter_le _ _) (by rw [List.length_take]; omega)
  refine RC.seq ?_
  refine RC.region rfl ?_
  refine RL.ev (.bin rfl rfl rfl) rfl rfl ?_
  refine RL.nil (RC.back ?_)
  refine RC.seq ?_
  refine RC.cond_dec rfl (fun h2 => ?_) (fun h2 => ?_)
  ·
    obtain ⟨x, hx⟩ := getSome (l := l) (i := i) (by omega)
    refine RC.skip (RC.back ?_)
    refine RC.seq ?_
    refine RC.block ?_
    refine RC.seq ?_
    refine RC.region rfl ?_
    refine RL.ev (.indexS sl35 rfl rfl (by omega) (hl.is (i := 0) (by simp only [List.length_map, List.length_cons, List.length_nil]; omega))) rfl rfl ?_
    refine RL.ev (.loadR (x.cells) sh82 rfl ((hl.sub S).rowAt (enc := It.cells) (i := i) hx) rfl) rfl rfl ?_
    refine RL.alloc ze82 rfl rfl (fun b_7 w_7 e_7 z_7 hb_7 s_7 => ?_)
    have ge_7 := S.le e_7
    have d_o_b_7 := o.neNew e_7
    have S := S.trans s_7
    have o := o.sub s_7
    have szB := Nat.le_trans szB s_7.size
    refine RL.store sh82 rfl rfl rfl hb_7 (by exact Nat.le_of_ble_eq_true rfl) (by rfl) rfl (fun w3 z3 hb_7 a3 => ?_)
    have S := S.upd a3 ge_7
    have o := o.updD a3 d_o_b_7
    have szB := Nat.le_trans szB a3.size
    have hb_7 : Has w3 b_7 (x.cells) _ := hb_7.now (by kernel_rfl)
    refine RL.nil (RC.back ?_)
    refine RC.seq ?_
    refine RC.region rfl ?_
    refine RL.ev (.field0 fo82_0 rfl) rfl rfl ?_
    refine RL.ev (.load1 sh2 rfl (hb_7.cell rfl)) rfl rfl ?_
    refine RL.ev (.move rfl) rfl rfl ?_
    refine RL.ev (.bin rfl rfl rfl) rfl rfl ?_
    refine RL.nil (RC.back ?_)
    refine RC.cond_dec rfl (fun h4 => ?_) (fun h4 => ?_)
    ·
      have hk : ¬ x.k = key := h4
      have hnext : delL (l.take (i + 1)) key = delL (l.take i) key ++ [x] := (by unfold delL; rw [filter_take hx, if_pos (decide_eq_true hk)])
      refine RC.region rfl ?_
      refine RL.ev (.move rfl) rfl rfl ?_
      refine RL.ev (.loadR (x.cells) sh82 rfl hb_7.row rfl) rfl rfl ?_
      refine RL.buildSlice1 sl35 _ ze82 rfl rfl rfl rfl rfl rfl rfl (fun b_21 w_21 e_21 z_21 hb_21 s_21 => ?_)
      have ge_21 := S.le e_21
      have n_7__21 := hb_7.ne e_21
      have d_o_b_21 := o.neNew e_21
      have S := S.trans s_21
      have o := o.sub s_21
      have szB := Nat.le_trans szB s_21.size
      have hb_7 := hb_7.sub s_21
      have sz_22 := S.size
      have ltb_7_22 := hb_7.lt
      have ltb_21_22 := hb_21.lt
      refine RL.append2 (base := w.heap.size) (rows := (delL (l.take i) key).map It.cells) (news := [_]) sl35 ze82 rfl rfl rfl rfl (.inl o) (Has.slOne hb_21) rfl (by intro r hr; rw [List.mem_singleton] at hr; subst hr; rfl) rfl (by (try simp only [List.length_map, List.length_nil, List.length_append, List.length_cons]); omega) (by (try simp only [List.length_map, List.length_nil, List.length_append, List.length_cons]); omega) (by omega) rfl rfl (fun v_22 w_22 hc_22 ho_22 ag_22 ob_22 => ?_)
      have o22 := ho_22 (.inl (by simp))
      rw [show _ ++ [_] = ((delL (l.take i) key ++ [x]).map It.cells) from by rw [List.map_append]; rfl] at o22
      have d_o22_b_7 := obNe ob_22 d_o_b_7 hb_7.lt
      have S := S.agrN ag_22 (fun k e => Nat.le_trans (by omega) e.2)
      have szB := Nat.le_trans szB ag_22.size
      have hb_7 := hb_7.step ag_22 (fun e => d_o_b_7 _ e.1 rfl)
      obtain ⟨a_22, c_22, rfl, k_22⟩ := o22.form
      refine RL.ev (.assign rfl) rfl rfl ?_
      refine RL.nil (RC.back ?_)
      refine RC.region rfl ?_
      refine RL.ev (.as (.bin rfl rfl rfl) (wi64 (y := ((i + 1 : Nat) : Int)) (by omega) (by omega))) rfl rfl ?_
      refine RL.ev (.move rfl) rfl rfl ?_
      exact RL.nil (fun a ka => ⟨(i + 1, a_22, _, c_22), ⟨by omega, by show Ows _ _ _ _ _ ((delL (l.take (i + 1)) key).map It.cells); rw [hnext]; exact o22, S⟩, by omega, ka.keep (keep_of (by repeat (first | exact trivial | refine And.intro rfl ?_)))⟩)
    ·
      have hk : x.k = key := Decidable.not_not.1 h4
      have hnext : delL (l.take (i + 1)) key = delL (l.take i) key := (by unfold delL; rw [filter_take hx, if_neg (by simp [hk]), List.append_nil])
      refine RC.skip (RC.back ?_)
      refine RC.region rfl ?_
      refine RL.ev (.as (.bin rfl rfl rfl) (wi64 (y := ((i + 1 : Nat) : Int)) (by omega) (by omega))) rfl rfl ?_
      refine RL.ev (.move rfl) rfl rfl ?_
      exact RL.nil (fun a ka => ⟨(i + 1, ao, _, co), ⟨by omega, by show Ows _ _ _ _ _ ((delL (l.take (i + 1)) key).map It.cells); rw [hnext]; exact o, S⟩, by omega, ka.keep (keep_of (by repeat (first | exact trivial | refine And.intro rfl ?_)))⟩)
  ·
    obtain rfl : i = l.length := (by omega)
    rw [List.take_length] at o
    refine RC.exit rfl (RC.back ?_)
    refine RC.seq ?_
    refine RC.region rfl ?_
    refine RL.ev (.move rfl) rfl rfl ?_
    refine RL.ev (.assign rfl) rfl rfl ?_
    refine RL.nil (RC.back ?_)
    refine RC.done (rs := [.tmp 4]) (vs := [_]) rfl rfl ⟨rfl, trivial⟩ ?_
    -- end 1
    exact ⟨ao, co, by rw [List.take_length]; rfl, o, S⟩
end Go.Proofs.Ytlhnnleaiinjaaa
