/-
  What the law ModelParts leans on, part 3.
-/
import Derived.Test.YtjafbffehmombaaPModelParts2
set_option linter.unusedVariables false
set_option linter.unusedSimpArgs false
namespace Go.Proofs.Ytjafbffehmombaa
open Go Go.XL
def whN (l : List It) (x : It) : Nat := (l.takeWhile fun z => decide (lessP z x)).length
theorem whN_of {x : It} : ∀ {l : List It} {n : Nat}, n ≤ l.length → (∀ k z, k < n → l[k]? = some z → lessP z x) → (∀ z, l[n]? = some z → ¬ lessP z x) → whN l x = n
  | [], n, hn, _, _ => by simp at hn; subst hn; rfl
  | y :: l, 0, _, _, h2 => by
    have := h2 y rfl
    unfold whN
    rw [List.takeWhile_cons, decide_eq_false this]; rfl
  | y :: l, n + 1, hn, h1, h2 => by
    have h0 := h1 0 y (by omega) rfl
    have ih := whN_of (l := l) (n := n) (by simpa using hn) (fun k z hk hz => h1 (k + 1) z (by omega) hz) (fun z hz => h2 z hz)
    unfold whN at ih ⊢
    rw [List.takeWhile_cons, decide_eq_true h0]
    simp only [if_true, List.length_cons, ih]
def heapM (l : List It) (o : OpT) : List It × ResT :=
  if o.kind = 6 then (l, ⟨0, l.length, 0⟩)
  else if o.kind = 2 then
    if 200 ≤ l.length then (l, ⟨5, 0, 0⟩) else (l.take (whN l ⟨o.a, o.b⟩) ++ ⟨o.a, o.b⟩ :: l.drop (whN l ⟨o.a, o.b⟩), ⟨0, 0, 0⟩)
  else if l.length = 0 then (l, ⟨3, 0, 0⟩)
  else (if o.kind = 3 then l.drop 1 else l, ⟨0, (valAt l 0).k, (valAt l 0).v⟩)
def SrtH (l : List It) : Prop := ∀ i x y, l[i]? = some x → l[i + 1]? = some y → ¬ lessP y x
theorem SrtH.le {l : List It} (h : SrtH l) : ∀ (d i : Nat) (x y : It), l[i]? = some x → l[i + d]? = some y → ¬ lessP y x
  | 0, i, x, y, hx, hy => by rw [Nat.add_zero, hx] at hy; cases hy; unfold lessP; omega
  | d + 1, i, x, y, hx, hy => by
    obtain ⟨z, hz⟩ := getSome (l := l) (i := i + d) (by have := lt_of_get hy; omega)
    have h1 := SrtH.le h d i x z hx hz
    have h2 := h (i + d) z y hz hy
    unfold lessP at *
    omega
theorem cmpIt_neg {x y : It} : cmpIt x y < 0 ↔ lessP x y := by
  rcases cmpIt_cases x y with ⟨h, e⟩ | ⟨h, e⟩ | ⟨h, e⟩
  · rw [e]; exact ⟨fun _ => h, fun _ => by decide⟩
  · rw [e]; exact ⟨fun h => absurd h (by decide), fun h2 => by unfold lessP at *; omega⟩
  · subst h; rw [e]; exact ⟨fun h => absurd h (by decide), fun h2 => by unfold lessP at *; omega⟩
theorem c_heap (l : List It) (a : Option Addr) (c m : Nat) (hm : m = l.length) (hs : SrtH l) (hl200 : l.length ≤ 200) (hc : l.length ≤ c) (o : OpT) (hok : okP o) (w : World) (M : Nat → Prop) (hF : Ft M (fun u => Sl u a 2 (l.map It.cells)) w) :
    FC Try.prog 67 [.slice a m c, .agg o.cells.toArray] w (fun u w' => AnsP M w w' (heapM l o) u) := by
  subst hm
  have hl := hF.now
  have hk := hok.1
  have hkk : 1 ≤ o.kind ∧ o.kind ≤ 6 := ⟨hk.2.2.1, hk.2.2.2.1⟩
  refine FC.intro Try.func67 rfl Try.ntmps67 rfl ?_
  have S := Sub.refl w
  refine RC.seq ?_
  refine RC.region rfl ?_
  refine RL.box rfl rfl rfl (fun b_3 w_3 e_3 z_3 hb_3 s_3 => ?_)
  have ge_3 := S.le e_3
  have S := S.trans s_3
  have hb_3 : Has w_3 b_3 ([.int .i64 o.box, .int .i64 o.kind, .int .i64 o.a, .int .i64 o.b]) _ := hb_3
  refine RL.ev (.assign rfl) rfl rfl ?_
  refine RL.alloc ze39 rfl rfl (fun b_5 w_5 e_5 z_5 hb_5 s_5 => ?_)
  have ge_5 := S.le e_5
  have n_3__5 := hb_3.ne e_5
  have S := S.trans s_5
  have hb_3 := hb_3.sub s_5
  refine RL.nil (RC.back ?_)
  refine RC.seq ?_
  refine RC.block ?_
  refine RC.seq ?_
  refine RC.region rfl ?_
  refine RL.ev (.field0 fo34_1 rfl) rfl rfl ?_
  refine RL.ev (.load1 sh3 rfl (hb_3.cell rfl)) rfl rfl ?_
  refine RL.ev (.bin rfl rfl rfl) rfl rfl ?_
  refine RL.ev (.assign rfl) rfl rfl ?_
  refine RL.nil (RC.back ?_)
  refine RC.cond_dec rfl (fun h1 => ?_) (fun h1 => ?_)
  ·
    have k10 := h1
    refine RC.seq ?_
    refine RC.region rfl ?_
    refine RL.ev (.move rfl) rfl rfl ?_
    refine RL.ev (.move rfl) rfl rfl ?_
    refine RL.ev (.len sl22 rfl) rfl rfl ?_
    refine RL.ev (.buildS ze39 pl39 rfl rfl) rfl rfl ?_
    refine RL.ev (.assign rfl) rfl rfl ?_
    refine RL.store sh39 rfl rfl rfl hb_5 (by exact Nat.le_of_ble_eq_true rfl) (by rfl) rfl (fun w2 z2 hb_5 a2 => ?_)
    have S := S.upd a2 ge_5
    have hb_3 := hb_3.upd a2 n_3__5
    have hb_5 : Has w2 b_5 ([.int .i64 0, .int .i64 (l.length : Int), .int .i64 0]) _ := hb_5.now (by kernel_rfl)
    refine RL.nil (RC.back ?_)
    refine RC.done (rs := [.tmp 4, .cell 5 39]) (vs := [_, _]) rfl rfl ⟨rfl, ⟨_, rfl, .inr ⟨[.int .i64 0, .int .i64 (l.length : Int), .int .i64 0], sh39, hb_5.row, rfl⟩⟩, trivial⟩ ?_
    -- end 1
    have he : heapM l o = (l, ⟨0, l.length, 0⟩) := (by rw [heapM, if_pos k10])
    rw [he]
    exact ⟨S, _, _, M, rfl, hc, hF.sub S, Up.refl _ _⟩
  ·
    have n10 := h1
    refine RC.seq ?_
    refine RC.region rfl ?_
    refine RL.ev (.field0 fo34_1 rfl) rfl rfl ?_
    refine RL.ev (.load1 sh3 rfl (hb_3.cell rfl)) rfl rfl ?_
    refine RL.ev (.bin rfl rfl rfl) rfl rfl ?_
    refine RL.ev (.move rfl) rfl rfl ?_
    refine RL.split 22 rfl (fun h3 => ?_) (fun h3 => ?_)
    ·
      have k22 := h3
      refine RL.ev (.move rfl) rfl rfl ?_
      refine RL.ev (.len sl22 rfl) rfl rfl ?_
      refine RL.ev (.bin rfl rfl rfl) rfl rfl ?_
      refine RL.ev (.pick_t rfl rfl) rfl rfl ?_
      refine RL.ev (.assign rfl) rfl rfl ?_
      refine RL.nil (RC.back ?_)
      refine RC.cond_dec rfl (fun h4 => ?_) (fun h4 => ?_)
      ·
        have k18 : 200 ≤ l.length := (by omega)
        refine RC.seq ?_
        refine RC.region rfl ?_
        refine RL.ev (.move rfl) rfl rfl ?_
        refine RL.call rfl ok76 (c_full w_5) rfl rfl ?_
        rintro _ w5 ⟨rfl, s6⟩
        have S := S.trans s6
        have hb_3 := hb_3.sub s6
        have hb_5 := hb_5.sub s6
        refine RL.ev (.assign rfl) rfl rfl ?_
        refine RL.store sh39 rfl rfl rfl hb_5 (by exact Nat.le_of_ble_eq_true rfl) (by rfl) rfl (fun w7 z7 hb_5 a7 => ?_)
        have S := S.upd a7 ge_5
        have hb_3 := hb_3.upd a7 n_3__5
        have hb_5 : Has w7 b_5 ([.int .i64 5, .int .i64 0, .int .i64 0]) _ := hb_5.now (by kernel_rfl)
        refine RL.nil (RC.back ?_)
        refine RC.done (rs := [.tmp 4, .cell 5 39]) (vs := [_, _]) rfl rfl ⟨rfl, ⟨_, rfl, .inr ⟨[.int .i64 5, .int .i64 0, .int .i64 0], sh39, hb_5.row, rfl⟩⟩, trivial⟩ ?_
        -- end 2
        have he : heapM l o = (l, ⟨5, 0, 0⟩) := (by rw [heapM, if_neg n10, if_pos k22, if_pos k18])
        rw [he]
        exact ⟨S, _, _, M, rfl, hc, hF.sub S, Up.refl _ _⟩
      ·
        have n18 : ¬ 200 ≤ l.length := (by omega)
        refine RC.seq ?_
        refine RC.region rfl ?_
        refine RL.ev (.field0 fo34_1 rfl) rfl rfl ?_
        refine RL.ev (.load1 sh3 rfl (hb_3.cell rfl)) rfl rfl ?_
        refine RL.ev (.bin rfl rfl rfl) rfl rfl ?_
        refine RL.ev (.assign rfl) rfl rfl ?_
        refine RL.nil (RC.back ?_)
        refine RC.cond_dec rfl (fun h8 => ?_) (fun h8 => ?_)
        ·
          have k29 := h8
          refine RC.seq ?_
          refine RC.region rfl ?_
          refine RL.ev (.field0 fo34_2 rfl) rfl rfl ?_
          refine RL.ev (.load1 sh2 rfl (hb_3.cell rfl)) rfl rfl ?_
          refine RL.ev (.field0 fo34_3 rfl) rfl rfl ?_
          refine RL.ev (.load1 sh2 rfl (hb_3.cell rfl)) rfl rfl ?_
          refine RL.ev (.buildS ze45 pl45 rfl rfl) rfl rfl ?_
          refine RL.alloc ze45 rfl rfl (fun b_6 w_6 e_6 z_6 hb_6 s_6 => ?_)
          have ge_6 := S.le e_6
          have n_3__6 := hb_3.ne e_6
          have n_5__6 := hb_5.ne e_6
          have S := S.trans s_6
          have hb_3 := hb_3.sub s_6
          have hb_5 := hb_5.sub s_6
          refine RL.store sh45 rfl rfl rfl hb_6 (by exact Nat.le_of_ble_eq_true rfl) (by rfl) rfl (fun w9 z9 hb_6 a9 => ?_)
          have S := S.upd a9 ge_6
          have hb_3 := hb_3.upd a9 n_3__6
          have hb_5 := hb_5.upd a9 n_5__6
          have hb_6 : Has w9 b_6 ([.int .i64 o.a, .int .i64 o.b]) _ := hb_6.now (by kernel_rfl)
          refine RL.nil (RC.back ?_)
          refine RC.seq ?_
          refine RC.region rfl ?_
          refine RL.ev (.move rfl) rfl rfl ?_
          refine RL.ev (.loadR ([.int .i64 o.a, .int .i64 o.b]) sh45 rfl hb_6.row rfl) rfl rfl ?_
          refine RL.call rfl ok79 (c_bsf2 44 ok44 ⟨o.a, o.b⟩ (fun x => cmpIt x ⟨o.a, o.b⟩) (fun x w' => c_less x ⟨o.a, o.b⟩ w') l (fun i j x y hij hx hy h => by rw [cmpIt_neg] at h ⊢; obtain ⟨d, rfl⟩ := Nat.le.dest hij; have q := hs.le d i x y hx hy; unfold lessP at *; omega) a c _ rfl w9 (hl.sub S) (by omega)) rfl rfl ?_
          rintro _ w10 ⟨s11, n, hn1, rfl, hn2, hn3⟩
          have S := S.trans s11
          have hb_3 := hb_3.sub s11
          have hb_5 := hb_5.sub s11
          have hb_6 := hb_6.sub s11
          have hwn : whN l ⟨o.a, o.b⟩ = n := whN_of hn1 (fun k z h1 h2 => cmpIt_neg.1 (hn2 k z h1 h2)) (fun z hz h => hn3 n z (Nat.le_refl _) hz (cmpIt_neg.2 h))
          refine RL.ev (.move rfl) rfl rfl ?_
          refine RL.ev (.extract rfl rfl) rfl rfl ?_
          refine RL.ev (.extract rfl rfl) rfl rfl ?_
          refine RL.ev (.assign rfl) rfl rfl ?_
          refine RL.ev (.assign rfl) rfl rfl ?_
          refine RL.nil (RC.back ?_)
          refine RC.seq ?_
          refine RC.drawD (fun k => k = b_5) [5, 8] w10.heap.size 9 rfl rfl mxo (fun w12 s13 => ?_)
          have hNN : ∀ k, ((k = b_5) ∨ w10.heap.size ≤ k) → w.heap.size ≤ k := fun k e => e.elim (fun e => e ▸ ge_5) (fun e => Nat.le_trans S.size e)
          have ent_S := S.size
          have hN0 : ∀ k, w10.heap.size ≤ k → w.heap.size ≤ k := fun k e => Nat.le_trans S.size e
          have ltD_b_3 := hb_3.lt
          have ltD_b_5 := hb_5.lt
          have ltD_b_6 := hb_6.lt
          have szD := Nat.le_refl w10.heap.size
          have S := S.trans s13
          have hb_3 := hb_3.sub s13
          have hb_5 := hb_5.sub s13
          have hb_6 := hb_6.sub s13
          have szD := Nat.le_trans szD s13.size
          refine RD.take 0 rfl (by kernel_rfl) (by kernel_rfl) (by kernel_rfl) (fun w' s' => .move rfl) rfl rfl ?_
          refine RD.take 2 rfl (by kernel_rfl) (by kernel_rfl) (by kernel_rfl) (fun w' s' => .move rfl) rfl rfl ?_
          refine RD.take 3 rfl (by kernel_rfl) (by kernel_rfl) (by kernel_rfl) (fun w' s' => .loadR ([.int .i64 o.a, .int .i64 o.b]) sh45 rfl (hb_6.step s' (fun e => e.elim (fun e => n_5__6.symm e) (fun e => Nat.not_le.2 ltD_b_6 e))).row rfl) rfl rfl ?_
          refine RD.take 6 rfl (by kernel_rfl) (by kernel_rfl) (by kernel_rfl) (fun w' s' => .buildS ze39 pl39 rfl rfl) rfl rfl ?_
          refine RD.all [1, 4] (by kernel_rfl) rfl (RDs.cons rfl ?_ (RDs.cons rfl ?_ (RDs.nil)))
          ·
            refine RL.call rfl ok75 (c_clone l a c _ rfl w12 (hl.sub S) (by omega)) rfl rfl ?_
            rintro _ w14 ⟨a84, c84, rfl, o84, s15⟩
            have lt3 := hb_3.lt
            have lt5 := hb_5.lt
            have lt6 := hb_6.lt
            have szS := S.size
            have szD84 := szD
            have szB84 := s15.size
            have S := S.trans s15
            have hb_3 := hb_3.sub s15
            have hb_5 := hb_5.sub s15
            have hb_6 := hb_6.sub s15
            have szD := Nat.le_trans szD s15.size
            have d84_3 : ∀ k, ob (.slice a84 l.length c84) = some k → k ≠ b_3 := (fun k hk e => by have := (o84.ge k hk).1; omega)
            have d84_5 : ∀ k, ob (.slice a84 l.length c84) = some k → k ≠ b_5 := (fun k hk e => by have := (o84.ge k hk).1; omega)
            have d84_6 : ∀ k, ob (.slice a84 l.length c84) = some k → k ≠ b_6 := (fun k hk e => by have := (o84.ge k hk).1; omega)
            have o84w := o84.whole
            refine RD.back s15.agr ?_
            refine RD.all [4] (by kernel_rfl) rfl (RDs.cons rfl ?_ (RDs.nil))
            refine RL.buildSlice1 sl22 _ ze45 rfl rfl rfl rfl rfl rfl rfl (fun b_48 w_48 e_48 z_48 hb_48 s_48 => ?_)
            have fr_b_48 : w10.heap.size ≤ b_48 := by rw [e_48]; exact szD
            have ge_48 := S.le e_48
            have n_3__48 := hb_3.ne e_48
            have n_5__48 := hb_5.ne e_48
            have n_6__48 := hb_6.ne e_48
            have d_o84_b_48 := o84.neNew e_48
            have S := S.trans s_48
            have hb_3 := hb_3.sub s_48
            have hb_5 := hb_5.sub s_48
            have hb_6 := hb_6.sub s_48
            have szD := Nat.le_trans szD s_48.size
            have szB84 := Nat.le_trans szB84 s_48.size
            have o84 := o84.sub s_48
            refine RD.back s_48.agr ?_
            refine RD.all [5] (by kernel_rfl) rfl (RDs.cons rfl ?_ (RDs.nil))
            refine RL.call rfl ok77 (c_insert l ⟨o.a, o.b⟩ _ a84 c84 b_48 n w_48 o84 szB84 (by rcases o84w with ⟨q, _⟩ | ⟨g, ex, q, _, _, _, q2⟩; injection q with _ _ q; omega; injection q with _ _ q; rw [q]; exact Nat.le_trans q2 (by decide)) (by omega) hn1 hb_48 (by first | exact d_o84_b_48 | exact (fun k hk e => by have := (o84.ge k hk).1; omega))) rfl rfl ?_
            rintro _ w16 ⟨a88', c88', M88, rfl, hc88, hF88, hM88, a49⟩
            have S := S.agrN a49 (fun k e => Nat.le_trans szS (o84.ge k e).1)
            have hb_3 := hb_3.step a49 (fun e => d84_3 _ e rfl)
            have hb_5 := hb_5.step a49 (fun e => d84_5 _ e rfl)
            have hb_6 := hb_6.step a49 (fun e => d84_6 _ e rfl)
            have szD := Nat.le_trans szD a49.size
            have d88_5 : ∀ k, M88 k → k ≠ b_5 := (fun k hk e => by have := hM88 k hk; omega)
            have d88_3 : ∀ k, M88 k → k ≠ b_3 := (fun k hk e => by have := hM88 k hk; omega)
            have d88_6 : ∀ k, M88 k → k ≠ b_6 := (fun k hk e => by have := hM88 k hk; omega)
            refine RD.backW rfl (a49.mono fun k _ e => .inr (Nat.le_trans szD84 (o84.ge k e).1)) ?_
            refine RD.take 7 rfl (by kernel_rfl) (by kernel_rfl) (by kernel_rfl) (fun w' s' => .assign rfl) rfl rfl ?_
            refine RD.all [8] (by kernel_rfl) rfl (RDs.cons rfl ?_ (RDs.nil))
            refine RL.store sh39 rfl rfl rfl hb_5 (by exact Nat.le_of_ble_eq_true rfl) (by rfl) rfl (fun w18 z18 hb_5 a18 => ?_)
            have S := S.upd a18 ge_5
            have hb_3 := hb_3.upd a18 n_3__5
            have hb_6 := hb_6.upd a18 n_5__6.symm
            have szD := Nat.le_trans szD a18.size
            have hF88 := hF88.updD a18 d88_5
            have hb_5 : Has w18 b_5 ([.int .i64 0, .int .i64 0, .int .i64 0]) _ := hb_5.now (by kernel_rfl)
            refine RD.backW rfl (a18.mono fun k _ e => e ▸ (.inl (rfl))) ?_
            refine RD.done (by kernel_rfl) (RC.back ?_)
            refine RC.done (rs := [.tmp 4, .cell 5 39]) (vs := [_, _]) rfl rfl ⟨rfl, ⟨_, rfl, .inr ⟨[.int .i64 0, .int .i64 0, .int .i64 0], sh39, hb_5.row, rfl⟩⟩, trivial⟩ ?_
            -- end 3
            have he : heapM l o = (l.take n ++ ⟨o.a, o.b⟩ :: l.drop n, ⟨0, 0, 0⟩) := (by rw [heapM, if_neg n10, if_pos k22, if_neg n18, hwn])
            rw [he]
            exact ⟨S, _, _, M88, by rw [show (l.take n ++ (⟨o.a, o.b⟩ : It) :: l.drop n).length = l.length + 1 from by rw [List.length_append, List.length_cons, List.length_take, List.length_drop]; omega]; rfl, by rw [show (l.take n ++ (⟨o.a, o.b⟩ : It) :: l.drop n).length = l.length + 1 from by rw [List.length_append, List.length_cons, List.length_take, List.length_drop]; omega]; exact hc88, hF88, fun k hk => .inr (Nat.le_trans szS (hM88 k hk))⟩
          ·
            refine RL.buildSlice1 sl22 _ ze45 rfl rfl rfl rfl rfl rfl rfl (fun b_48 w_48 e_48 z_48 hb_48 s_48 => ?_)
            have fr_b_48 : w10.heap.size ≤ b_48 := by rw [e_48]; exact szD
            have ge_48 := S.le e_48
            have n_3__48 := hb_3.ne e_48
            have n_5__48 := hb_5.ne e_48
            have n_6__48 := hb_6.ne e_48
            have S := S.trans s_48
            have hb_3 := hb_3.sub s_48
            have hb_5 := hb_5.sub s_48
            have hb_6 := hb_6.sub s_48
            have szD := Nat.le_trans szD s_48.size
            refine RD.back s_48.agr ?_
            refine RD.all [1] (by kernel_rfl) rfl (RDs.cons rfl ?_ (RDs.nil))
            refine RL.call rfl ok75 (c_clone l a c _ rfl w_48 (hl.sub S) (by omega)) rfl rfl ?_
            rintro _ w19 ⟨a84, c84, rfl, o84, s20⟩
            have lt3 := hb_3.lt
            have lt5 := hb_5.lt
            have lt6 := hb_6.lt
            have szS := S.size
            have szD84 := szD
            have szB84 := s20.size
            have S := S.trans s20
            have hb_3 := hb_3.sub s20
            have hb_5 := hb_5.sub s20
            have hb_6 := hb_6.sub s20
            have szD := Nat.le_trans szD s20.size
            have hb_48 := hb_48.sub s20
            have d84_3 : ∀ k, ob (.slice a84 l.length c84) = some k → k ≠ b_3 := (fun k hk e => by have := (o84.ge k hk).1; omega)
            have d84_5 : ∀ k, ob (.slice a84 l.length c84) = some k → k ≠ b_5 := (fun k hk e => by have := (o84.ge k hk).1; omega)
            have d84_6 : ∀ k, ob (.slice a84 l.length c84) = some k → k ≠ b_6 := (fun k hk e => by have := (o84.ge k hk).1; omega)
            have o84w := o84.whole
            refine RD.back s20.agr ?_
            refine RD.all [5] (by kernel_rfl) rfl (RDs.cons rfl ?_ (RDs.nil))
            refine RL.call rfl ok77 (c_insert l ⟨o.a, o.b⟩ _ a84 c84 b_48 n w19 o84 szB84 (by rcases o84w with ⟨q, _⟩ | ⟨g, ex, q, _, _, _, q2⟩; injection q with _ _ q; omega; injection q with _ _ q; rw [q]; exact Nat.le_trans q2 (by decide)) (by omega) hn1 hb_48 (by first | exact d_o84_b_48 | exact (fun k hk e => by have := (o84.ge k hk).1; omega))) rfl rfl ?_
            rintro _ w21 ⟨a88', c88', M88, rfl, hc88, hF88, hM88, a49⟩
            have S := S.agrN a49 (fun k e => Nat.le_trans szS (o84.ge k e).1)
            have hb_3 := hb_3.step a49 (fun e => d84_3 _ e rfl)
            have hb_5 := hb_5.step a49 (fun e => d84_5 _ e rfl)
            have hb_6 := hb_6.step a49 (fun e => d84_6 _ e rfl)
            have szD := Nat.le_trans szD a49.size
            have d88_5 : ∀ k, M88 k → k ≠ b_5 := (fun k hk e => by have := hM88 k hk; omega)
            have d88_3 : ∀ k, M88 k → k ≠ b_3 := (fun k hk e => by have := hM88 k hk; omega)
            have d88_6 : ∀ k, M88 k → k ≠ b_6 := (fun k hk e => by have := hM88 k hk; omega)
            refine RD.backW rfl (a49.mono fun k _ e => .inr (Nat.le_trans szD84 (o84.ge k e).1)) ?_
            refine RD.take 7 rfl (by kernel_rfl) (by kernel_rfl) (by kernel_rfl) (fun w' s' => .assign rfl) rfl rfl ?_
            refine RD.all [8] (by kernel_rfl) rfl (RDs.cons rfl ?_ (RDs.nil))
            refine RL.store sh39 rfl rfl rfl hb_5 (by exact Nat.le_of_ble_eq_true rfl) (by rfl) rfl (fun w23 z23 hb_5 a23 => ?_)
            have S := S.upd a23 ge_5
            have hb_3 := hb_3.upd a23 n_3__5
            have hb_6 := hb_6.upd a23 n_5__6.symm
            have szD := Nat.le_trans szD a23.size
            have hF88 := hF88.updD a23 d88_5
            have hb_5 : Has w23 b_5 ([.int .i64 0, .int .i64 0, .int .i64 0]) _ := hb_5.now (by kernel_rfl)
            refine RD.backW rfl (a23.mono fun k _ e => e ▸ (.inl (rfl))) ?_
            refine RD.done (by kernel_rfl) (RC.back ?_)
            refine RC.done (rs := [.tmp 4, .cell 5 39]) (vs := [_, _]) rfl rfl ⟨rfl, ⟨_, rfl, .inr ⟨[.int .i64 0, .int .i64 0, .int .i64 0], sh39, hb_5.row, rfl⟩⟩, trivial⟩ ?_
            -- end 4
            have he : heapM l o = (l.take n ++ ⟨o.a, o.b⟩ :: l.drop n, ⟨0, 0, 0⟩) := (by rw [heapM, if_neg n10, if_pos k22, if_neg n18, hwn])
            rw [he]
            exact ⟨S, _, _, M88, by rw [show (l.take n ++ (⟨o.a, o.b⟩ : It) :: l.drop n).length = l.length + 1 from by rw [List.length_append, List.length_cons, List.length_take, List.length_drop]; omega]; rfl, by rw [show (l.take n ++ (⟨o.a, o.b⟩ : It) :: l.drop n).length = l.length + 1 from by rw [List.length_append, List.length_cons, List.length_take, List.length_drop]; omega]; exact hc88, hF88, fun k hk => .inr (Nat.le_trans szS (hM88 k hk))⟩
        ·
          have n29 := h8
          refine RC.seq ?_
          refine RC.region rfl ?_
          refine RL.ev (.move rfl) rfl rfl ?_
          refine RL.ev (.len sl22 rfl) rfl rfl ?_
          refine RL.ev (.bin rfl rfl rfl) rfl rfl ?_
          refine RL.ev (.assign rfl) rfl rfl ?_
          refine RL.nil (RC.back ?_)
          refine RC.cond_dec rfl (fun h24 => ?_) (fun h24 => ?_)
          ·
            have k51 : l.length = 0 := (by omega)
            refine RC.seq ?_
            refine RC.region rfl ?_
            refine RL.ev (.move rfl) rfl rfl ?_
            refine RL.call rfl ok73 (c_none w_5) rfl rfl ?_
            rintro _ w25 ⟨rfl, s26⟩
            have S := S.trans s26
            have hb_3 := hb_3.sub s26
            have hb_5 := hb_5.sub s26
            refine RL.ev (.assign rfl) rfl rfl ?_
            refine RL.store sh39 rfl rfl rfl hb_5 (by exact Nat.le_of_ble_eq_true rfl) (by rfl) rfl (fun w27 z27 hb_5 a27 => ?_)
            have S := S.upd a27 ge_5
            have hb_3 := hb_3.upd a27 n_3__5
            have hb_5 : Has w27 b_5 ([.int .i64 3, .int .i64 0, .int .i64 0]) _ := hb_5.now (by kernel_rfl)
            refine RL.nil (RC.back ?_)
            refine RC.done (rs := [.tmp 4, .cell 5 39]) (vs := [_, _]) rfl rfl ⟨rfl, ⟨_, rfl, .inr ⟨[.int .i64 3, .int .i64 0, .int .i64 0], sh39, hb_5.row, rfl⟩⟩, trivial⟩ ?_
            -- end 5
            exact absurd k22 n29
          ·
            have n51 : 0 < l.length := (by omega)
            obtain ⟨y, hy⟩ := getSome (l := l) (i := 0) n51
            have hva := valAt_get hy
            refine RC.skip (RC.back ?_)
            refine RC.seq ?_
            refine RC.drawD (fun k => False) [10] w_5.heap.size 11 rfl rfl mxo (fun w28 s29 => ?_)
            have hNN : ∀ k, ((False) ∨ w_5.heap.size ≤ k) → w.heap.size ≤ k := fun k e => e.elim (fun e => e.elim) (fun e => Nat.le_trans S.size e)
            have ent_S := S.size
            have hN0 : ∀ k, w_5.heap.size ≤ k → w.heap.size ≤ k := fun k e => Nat.le_trans S.size e
            have ltD_b_3 := hb_3.lt
            have ltD_b_5 := hb_5.lt
            have szD := Nat.le_refl w_5.heap.size
            have S := S.trans s29
            have hb_3 := hb_3.sub s29
            have hb_5 := hb_5.sub s29
            have szD := Nat.le_trans szD s29.size
            refine RD.take 0 rfl (by kernel_rfl) (by kernel_rfl) (by kernel_rfl) (fun w' s' => .move rfl) rfl rfl ?_
            refine RD.take 1 rfl (by kernel_rfl) (by kernel_rfl) (by kernel_rfl) (fun w' s' => .indexS sl22 rfl rfl (by omega) (hl.is (i := 0) (by simp only [List.length_map, List.length_cons, List.length_nil]; omega))) rfl rfl ?_
            refine RD.take 2 rfl (by kernel_rfl) (by kernel_rfl) (by kernel_rfl) (fun w' s' => .fieldA fo45_0 rfl) rfl rfl ?_
            refine RD.take 3 rfl (by kernel_rfl) (by kernel_rfl) (by kernel_rfl) (fun w' s' => .load1 sh2 rfl ((hl.sub (S.agrN s' hNN)).cell (enc := It.cells) (i := 0) (j := 0) hy rfl)) rfl rfl ?_
            refine RD.take 4 rfl (by kernel_rfl) (by kernel_rfl) (by kernel_rfl) (fun w' s' => .move rfl) rfl rfl ?_
            refine RD.take 5 rfl (by kernel_rfl) (by kernel_rfl) (by kernel_rfl) (fun w' s' => .indexS sl22 rfl rfl (by omega) (hl.is (i := 0) (by simp only [List.length_map, List.length_cons, List.length_nil]; omega))) rfl rfl ?_
            refine RD.take 6 rfl (by kernel_rfl) (by kernel_rfl) (by kernel_rfl) (fun w' s' => .fieldA fo45_1 rfl) rfl rfl ?_
            refine RD.take 7 rfl (by kernel_rfl) (by kernel_rfl) (by kernel_rfl) (fun w' s' => .load1 sh2 rfl ((hl.sub (S.agrN s' hNN)).cell (enc := It.cells) (i := 0) (j := 1) hy rfl)) rfl rfl ?_
            refine RD.take 8 rfl (by kernel_rfl) (by kernel_rfl) (by kernel_rfl) (fun w' s' => .buildS ze39 pl39 rfl rfl) rfl rfl ?_
            refine RD.all [9] (by kernel_rfl) rfl (RDs.cons rfl ?_ (RDs.nil))
            refine RL.alloc ze39 rfl rfl (fun b_9 w_9 e_9 z_9 hb_9 s_9 => ?_)
            have fr_b_9 : w_5.heap.size ≤ b_9 := by rw [e_9]; exact szD
            have ge_9 := S.le e_9
            have n_3__9 := hb_3.ne e_9
            have n_5__9 := hb_5.ne e_9
            have S := S.trans s_9
            have hb_3 := hb_3.sub s_9
            have hb_5 := hb_5.sub s_9
            have szD := Nat.le_trans szD s_9.size
            refine RD.back s_9.agr ?_
            refine RD.all [10] (by kernel_rfl) rfl (RDs.cons rfl ?_ (RDs.nil))
            refine RL.store sh39 rfl rfl rfl hb_9 (by exact Nat.le_of_ble_eq_true rfl) (by rfl) rfl (fun w30 z30 hb_9 a30 => ?_)
            have S := S.upd a30 ge_9
            have hb_3 := hb_3.upd a30 n_3__9
            have hb_5 := hb_5.upd a30 n_5__9
            have szD := Nat.le_trans szD a30.size
            have hb_9 : Has w30 b_9 ([.int .i64 0, .int .i64 y.k, .int .i64 y.v]) _ := hb_9.now (by kernel_rfl)
            refine RD.backW rfl (a30.mono fun k _ e => e ▸ (.inr fr_b_9)) ?_
            refine RD.done (by kernel_rfl) (RC.back ?_)
            refine RC.seq ?_
            refine RC.seq ?_
            refine RC.region rfl ?_
            refine RL.ev (.field0 fo34_1 rfl) rfl rfl ?_
            refine RL.ev (.load1 sh3 rfl (hb_3.cell rfl)) rfl rfl ?_
            refine RL.ev (.bin rfl rfl rfl) rfl rfl ?_
            refine RL.nil (RC.back ?_)
            refine RC.cond_dec rfl (fun h31 => ?_) (fun h31 => ?_)
            ·
              have k68 := h31
              refine RC.region rfl ?_
              refine RL.ev (.move rfl) rfl rfl ?_
              refine RL.ev (.sliceLo sl22 rfl rfl (by omega)) rfl rfl ?_
              refine RL.ev (.assign rfl) rfl rfl ?_
              refine RL.nil (RC.back ?_)
              refine RC.seq ?_
              refine RC.drawD (fun k => k = b_5) [3] w30.heap.size 4 rfl rfl mxo (fun w32 s33 => ?_)
              have hNN : ∀ k, ((k = b_5) ∨ w30.heap.size ≤ k) → w.heap.size ≤ k := fun k e => e.elim (fun e => e ▸ ge_5) (fun e => Nat.le_trans S.size e)
              have ent_S := S.size
              have hN0 : ∀ k, w30.heap.size ≤ k → w.heap.size ≤ k := fun k e => Nat.le_trans S.size e
              have ltD_b_3 := hb_3.lt
              have ltD_b_5 := hb_5.lt
              have ltD_b_9 := hb_9.lt
              have szD := Nat.le_refl w30.heap.size
              have S := S.trans s33
              have hb_3 := hb_3.sub s33
              have hb_5 := hb_5.sub s33
              have hb_9 := hb_9.sub s33
              have szD := Nat.le_trans szD s33.size
              refine RD.take 0 rfl (by kernel_rfl) (by kernel_rfl) (by kernel_rfl) (fun w' s' => .move rfl) rfl rfl ?_
              refine RD.take 1 rfl (by kernel_rfl) (by kernel_rfl) (by kernel_rfl) (fun w' s' => .loadR ([.int .i64 0, .int .i64 y.k, .int .i64 y.v]) sh39 rfl (hb_9.step s' (fun e => e.elim (fun e => n_5__9.symm e) (fun e => Nat.not_le.2 ltD_b_9 e))).row rfl) rfl rfl ?_
              refine RD.take 2 rfl (by kernel_rfl) (by kernel_rfl) (by kernel_rfl) (fun w' s' => .assign rfl) rfl rfl ?_
              refine RD.all [3] (by kernel_rfl) rfl (RDs.cons rfl ?_ (RDs.nil))
              refine RL.store sh39 rfl rfl rfl hb_5 (by exact Nat.le_of_ble_eq_true rfl) (by rfl) rfl (fun w34 z34 hb_5 a34 => ?_)
              have S := S.upd a34 ge_5
              have hb_3 := hb_3.upd a34 n_3__5
              have hb_9 := hb_9.upd a34 n_5__9.symm
              have szD := Nat.le_trans szD a34.size
              have hb_5 : Has w34 b_5 ([.int .i64 0, .int .i64 y.k, .int .i64 y.v]) _ := hb_5.now (by kernel_rfl)
              refine RD.backW rfl (a34.mono fun k _ e => e ▸ (.inl (rfl))) ?_
              refine RD.done (by kernel_rfl) (RC.back ?_)
              refine RC.done (rs := [.tmp 4, .cell 5 39]) (vs := [_, _]) rfl rfl ⟨rfl, ⟨_, rfl, .inr ⟨[.int .i64 0, .int .i64 y.k, .int .i64 y.v], sh39, hb_5.row, rfl⟩⟩, trivial⟩ ?_
              -- end 6
              exact absurd k22 n29
            ·
              have n68 := h31
              refine RC.skip (RC.back ?_)
              refine RC.seq ?_
              refine RC.drawD (fun k => k = b_5) [3] w30.heap.size 4 rfl rfl mxo (fun w35 s36 => ?_)
              have hNN : ∀ k, ((k = b_5) ∨ w30.heap.size ≤ k) → w.heap.size ≤ k := fun k e => e.elim (fun e => e ▸ ge_5) (fun e => Nat.le_trans S.size e)
              have ent_S := S.size
              have hN0 : ∀ k, w30.heap.size ≤ k → w.heap.size ≤ k := fun k e => Nat.le_trans S.size e
              have ltD_b_3 := hb_3.lt
              have ltD_b_5 := hb_5.lt
              have ltD_b_9 := hb_9.lt
              have szD := Nat.le_refl w30.heap.size
              have S := S.trans s36
              have hb_3 := hb_3.sub s36
              have hb_5 := hb_5.sub s36
              have hb_9 := hb_9.sub s36
              have szD := Nat.le_trans szD s36.size
              refine RD.take 0 rfl (by kernel_rfl) (by kernel_rfl) (by kernel_rfl) (fun w' s' => .move rfl) rfl rfl ?_
              refine RD.take 1 rfl (by kernel_rfl) (by kernel_rfl) (by kernel_rfl) (fun w' s' => .loadR ([.int .i64 0, .int .i64 y.k, .int .i64 y.v]) sh39 rfl (hb_9.step s' (fun e => e.elim (fun e => n_5__9.symm e) (fun e => Nat.not_le.2 ltD_b_9 e))).row rfl) rfl rfl ?_
              refine RD.take 2 rfl (by kernel_rfl) (by kernel_rfl) (by kernel_rfl) (fun w' s' => .assign rfl) rfl rfl ?_
              refine RD.all [3] (by kernel_rfl) rfl (RDs.cons rfl ?_ (RDs.nil))
              refine RL.store sh39 rfl rfl rfl hb_5 (by exact Nat.le_of_ble_eq_true rfl) (by rfl) rfl (fun w37 z37 hb_5 a37 => ?_)
              have S := S.upd a37 ge_5
              have hb_3 := hb_3.upd a37 n_3__5
              have hb_9 := hb_9.upd a37 n_5__9.symm
              have szD := Nat.le_trans szD a37.size
              have hb_5 : Has w37 b_5 ([.int .i64 0, .int .i64 y.k, .int .i64 y.v]) _ := hb_5.now (by kernel_rfl)
              refine RD.backW rfl (a37.mono fun k _ e => e ▸ (.inl (rfl))) ?_
              refine RD.done (by kernel_rfl) (RC.back ?_)
              refine RC.done (rs := [.tmp 4, .cell 5 39]) (vs := [_, _]) rfl rfl ⟨rfl, ⟨_, rfl, .inr ⟨[.int .i64 0, .int .i64 y.k, .int .i64 y.v], sh39, hb_5.row, rfl⟩⟩, trivial⟩ ?_
              -- end 7
              exact absurd k22 n29
    ·
      have n22 := h3
      refine RL.off rfl rfl ?_
      refine RL.off rfl rfl ?_
      refine RL.off rfl rfl ?_
      refine RL.ev (.pick_f rfl rfl) rfl rfl ?_
      refine RL.ev (.assign rfl) rfl rfl ?_
      refine RL.nil (RC.back ?_)
      refine RC.cond_f rfl ?_
      refine RC.seq ?_
      refine RC.region rfl ?_
      refine RL.ev (.field0 fo34_1 rfl) rfl rfl ?_
      refine RL.ev (.load1 sh3 rfl (hb_3.cell rfl)) rfl rfl ?_
      refine RL.ev (.bin rfl rfl rfl) rfl rfl ?_
      refine RL.ev (.assign rfl) rfl rfl ?_
      refine RL.nil (RC.back ?_)
      refine RC.cond_dec rfl (fun h38 => ?_) (fun h38 => ?_)
      ·
        have k29 := h38
        refine RC.seq ?_
        refine RC.region rfl ?_
        refine RL.ev (.field0 fo34_2 rfl) rfl rfl ?_
        refine RL.ev (.load1 sh2 rfl (hb_3.cell rfl)) rfl rfl ?_
        refine RL.ev (.field0 fo34_3 rfl) rfl rfl ?_
        refine RL.ev (.load1 sh2 rfl (hb_3.cell rfl)) rfl rfl ?_
        refine RL.ev (.buildS ze45 pl45 rfl rfl) rfl rfl ?_
        refine RL.alloc ze45 rfl rfl (fun b_6 w_6 e_6 z_6 hb_6 s_6 => ?_)
        have ge_6 := S.le e_6
        have n_3__6 := hb_3.ne e_6
        have n_5__6 := hb_5.ne e_6
        have S := S.trans s_6
        have hb_3 := hb_3.sub s_6
        have hb_5 := hb_5.sub s_6
        refine RL.store sh45 rfl rfl rfl hb_6 (by exact Nat.le_of_ble_eq_true rfl) (by rfl) rfl (fun w39 z39 hb_6 a39 => ?_)
        have S := S.upd a39 ge_6
        have hb_3 := hb_3.upd a39 n_3__6
        have hb_5 := hb_5.upd a39 n_5__6
        have hb_6 : Has w39 b_6 ([.int .i64 o.a, .int .i64 o.b]) _ := hb_6.now (by kernel_rfl)
        refine RL.nil (RC.back ?_)
        refine RC.seq ?_
        refine RC.region rfl ?_
        refine RL.ev (.move rfl) rfl rfl ?_
        refine RL.ev (.loadR ([.int .i64 o.a, .int .i64 o.b]) sh45 rfl hb_6.row rfl) rfl rfl ?_
        refine RL.call rfl ok79 (c_bsf2 44 ok44 ⟨o.a, o.b⟩ (fun x => cmpIt x ⟨o.a, o.b⟩) (fun x w' => c_less x ⟨o.a, o.b⟩ w') l (fun i j x y hij hx hy h => by rw [cmpIt_neg] at h ⊢; obtain ⟨d, rfl⟩ := Nat.le.dest hij; have q := hs.le d i x y hx hy; unfold lessP at *; omega) a c _ rfl w39 (hl.sub S) (by omega)) rfl rfl ?_
        rintro _ w40 ⟨s41, n, hn1, rfl, hn2, hn3⟩
        have S := S.trans s41
        have hb_3 := hb_3.sub s41
        have hb_5 := hb_5.sub s41
        have hb_6 := hb_6.sub s41
        have hwn : whN l ⟨o.a, o.b⟩ = n := whN_of hn1 (fun k z h1 h2 => cmpIt_neg.1 (hn2 k z h1 h2)) (fun z hz h => hn3 n z (Nat.le_refl _) hz (cmpIt_neg.2 h))
        refine RL.ev (.move rfl) rfl rfl ?_
        refine RL.ev (.extract rfl rfl) rfl rfl ?_
        refine RL.ev (.extract rfl rfl) rfl rfl ?_
        refine RL.ev (.assign rfl) rfl rfl ?_
        refine RL.ev (.assign rfl) rfl rfl ?_
        refine RL.nil (RC.back ?_)
        refine RC.seq ?_
        refine RC.drawD (fun k => k = b_5) [5, 8] w40.heap.size 9 rfl rfl mxo (fun w42 s43 => ?_)
        have hNN : ∀ k, ((k = b_5) ∨ w40.heap.size ≤ k) → w.heap.size ≤ k := fun k e => e.elim (fun e => e ▸ ge_5) (fun e => Nat.le_trans S.size e)
        have ent_S := S.size
        have hN0 : ∀ k, w40.heap.size ≤ k → w.heap.size ≤ k := fun k e => Nat.le_trans S.size e
        have ltD_b_3 := hb_3.lt
        have ltD_b_5 := hb_5.lt
        have ltD_b_6 := hb_6.lt
        have szD := Nat.le_refl w40.heap.size
        have S := S.trans s43
        have hb_3 := hb_3.sub s43
        have hb_5 := hb_5.sub s43
        have hb_6 := hb_6.sub s43
        have szD := Nat.le_trans szD s43.size
        refine RD.take 0 rfl (by kernel_rfl) (by kernel_rfl) (by kernel_rfl) (fun w' s' => .move rfl) rfl rfl ?_
        refine RD.take 2 rfl (by kernel_rfl) (by kernel_rfl) (by kernel_rfl) (fun w' s' => .move rfl) rfl rfl ?_
        refine RD.take 3 rfl (by kernel_rfl) (by kernel_rfl) (by kernel_rfl) (fun w' s' => .loadR ([.int .i64 o.a, .int .i64 o.b]) sh45 rfl (hb_6.step s' (fun e => e.elim (fun e => n_5__6.symm e) (fun e => Nat.not_le.2 ltD_b_6 e))).row rfl) rfl rfl ?_
        refine RD.take 6 rfl (by kernel_rfl) (by kernel_rfl) (by kernel_rfl) (fun w' s' => .buildS ze39 pl39 rfl rfl) rfl rfl ?_
        refine RD.all [1, 4] (by kernel_rfl) rfl (RDs.cons rfl ?_ (RDs.cons rfl ?_ (RDs.nil)))
        ·
          refine RL.call rfl ok75 (c_clone l a c _ rfl w42 (hl.sub S) (by omega)) rfl rfl ?_
          rintro _ w44 ⟨a84, c84, rfl, o84, s45⟩
          have lt3 := hb_3.lt
          have lt5 := hb_5.lt
          have lt6 := hb_6.lt
          have szS := S.size
          have szD84 := szD
          have szB84 := s45.size
          have S := S.trans s45
          have hb_3 := hb_3.sub s45
          have hb_5 := hb_5.sub s45
          have hb_6 := hb_6.sub s45
          have szD := Nat.le_trans szD s45.size
          have d84_3 : ∀ k, ob (.slice a84 l.length c84) = some k → k ≠ b_3 := (fun k hk e => by have := (o84.ge k hk).1; omega)
          have d84_5 : ∀ k, ob (.slice a84 l.length c84) = some k → k ≠ b_5 := (fun k hk e => by have := (o84.ge k hk).1; omega)
          have d84_6 : ∀ k, ob (.slice a84 l.length c84) = some k → k ≠ b_6 := (fun k hk e => by have := (o84.ge k hk).1; omega)
          have o84w := o84.whole
          refine RD.back s45.agr ?_
          refine RD.all [4] (by kernel_rfl) rfl (RDs.cons rfl ?_ (RDs.nil))
          refine RL.buildSlice1 sl22 _ ze45 rfl rfl rfl rfl rfl rfl rfl (fun b_48 w_48 e_48 z_48 hb_48 s_48 => ?_)
          have fr_b_48 : w40.heap.size ≤ b_48 := by rw [e_48]; exact szD
          have ge_48 := S.le e_48
          have n_3__48 := hb_3.ne e_48
          have n_5__48 := hb_5.ne e_48
          have n_6__48 := hb_6.ne e_48
          have d_o84_b_48 := o84.neNew e_48
          have S := S.trans s_48
          have hb_3 := hb_3.sub s_48
          have hb_5 := hb_5.sub s_48
          have hb_6 := hb_6.sub s_48
          have szD := Nat.le_trans szD s_48.size
          have szB84 := Nat.le_trans szB84 s_48.size
          have o84 := o84.sub s_48
          refine RD.back s_48.agr ?_
          refine RD.all [5] (by kernel_rfl) rfl (RDs.cons rfl ?_ (RDs.nil))
          refine RL.call rfl ok77 (c_insert l ⟨o.a, o.b⟩ _ a84 c84 b_48 n w_48 o84 szB84 (by rcases o84w with ⟨q, _⟩ | ⟨g, ex, q, _, _, _, q2⟩; injection q with _ _ q; omega; injection q with _ _ q; rw [q]; exact Nat.le_trans q2 (by decide)) (by omega) hn1 hb_48 (by first | exact d_o84_b_48 | exact (fun k hk e => by have := (o84.ge k hk).1; omega))) rfl rfl ?_
          rintro _ w46 ⟨a88', c88', M88, rfl, hc88, hF88, hM88, a49⟩
          have S := S.agrN a49 (fun k e => Nat.le_trans szS (o84.ge k e).1)
          have hb_3 := hb_3.step a49 (fun e => d84_3 _ e rfl)
          have hb_5 := hb_5.step a49 (fun e => d84_5 _ e rfl)
          have hb_6 := hb_6.step a49 (fun e => d84_6 _ e rfl)
          have szD := Nat.le_trans szD a49.size
          have d88_5 : ∀ k, M88 k → k ≠ b_5 := (fun k hk e => by have := hM88 k hk; omega)
          have d88_3 : ∀ k, M88 k → k ≠ b_3 := (fun k hk e => by have := hM88 k hk; omega)
          have d88_6 : ∀ k, M88 k → k ≠ b_6 := (fun k hk e => by have := hM88 k hk; omega)
          refine RD.backW rfl (a49.mono fun k _ e => .inr (Nat.le_trans szD84 (o84.ge k e).1)) ?_
          refine RD.take 7 rfl (by kernel_rfl) (by kernel_rfl) (by kernel_rfl) (fun w' s' => .assign rfl) rfl rfl ?_
          refine RD.all [8] (by kernel_rfl) rfl (RDs.cons rfl ?_ (RDs.nil))
          refine RL.store sh39 rfl rfl rfl hb_5 (by exact Nat.le_of_ble_eq_true rfl) (by rfl) rfl (fun w48 z48 hb_5 a48 => ?_)
          have S := S.upd a48 ge_5
          have hb_3 := hb_3.upd a48 n_3__5
          have hb_6 := hb_6.upd a48 n_5__6.symm
          have szD := Nat.le_trans szD a48.size
          have hF88 := hF88.updD a48 d88_5
          have hb_5 : Has w48 b_5 ([.int .i64 0, .int .i64 0, .int .i64 0]) _ := hb_5.now (by kernel_rfl)
          refine RD.backW rfl (a48.mono fun k _ e => e ▸ (.inl (rfl))) ?_
          refine RD.done (by kernel_rfl) (RC.back ?_)
          refine RC.done (rs := [.tmp 4, .cell 5 39]) (vs := [_, _]) rfl rfl ⟨rfl, ⟨_, rfl, .inr ⟨[.int .i64 0, .int .i64 0, .int .i64 0], sh39, hb_5.row, rfl⟩⟩, trivial⟩ ?_
          -- end 8
          exact absurd k29 n22
        ·
          refine RL.buildSlice1 sl22 _ ze45 rfl rfl rfl rfl rfl rfl rfl (fun b_48 w_48 e_48 z_48 hb_48 s_48 => ?_)
          have fr_b_48 : w40.heap.size ≤ b_48 := by rw [e_48]; exact szD
          have ge_48 := S.le e_48
          have n_3__48 := hb_3.ne e_48
          have n_5__48 := hb_5.ne e_48
          have n_6__48 := hb_6.ne e_48
          have S := S.trans s_48
          have hb_3 := hb_3.sub s_48
          have hb_5 := hb_5.sub s_48
          have hb_6 := hb_6.sub s_48
          have szD := Nat.le_trans szD s_48.size
          refine RD.back s_48.agr ?_
          refine RD.all [1] (by kernel_rfl) rfl (RDs.cons rfl ?_ (RDs.nil))
          refine RL.call rfl ok75 (c_clone l a c _ rfl w_48 (hl.sub S) (by omega)) rfl rfl ?_
          rintro _ w49 ⟨a84, c84, rfl, o84, s50⟩
          have lt3 := hb_3.lt
          have lt5 := hb_5.lt
          have lt6 := hb_6.lt
          have szS := S.size
          have szD84 := szD
          have szB84 := s50.size
          have S := S.trans s50
          have hb_3 := hb_3.sub s50
          have hb_5 := hb_5.sub s50
          have hb_6 := hb_6.sub s50
          have szD := Nat.le_trans szD s50.size
          have hb_48 := hb_48.sub s50
          have d84_3 : ∀ k, ob (.slice a84 l.length c84) = some k → k ≠ b_3 := (fun k hk e => by have := (o84.ge k hk).1; omega)
          have d84_5 : ∀ k, ob (.slice a84 l.length c84) = some k → k ≠ b_5 := (fun k hk e => by have := (o84.ge k hk).1; omega)
          have d84_6 : ∀ k, ob (.slice a84 l.length c84) = some k → k ≠ b_6 := (fun k hk e => by have := (o84.ge k hk).1; omega)
          have o84w := o84.whole
          refine RD.back s50.agr ?_
          refine RD.all [5] (by kernel_rfl) rfl (RDs.cons rfl ?_ (RDs.nil))
          refine RL.call rfl ok77 (c_insert l ⟨o.a, o.b⟩ _ a84 c84 b_48 n w49 o84 szB84 (by rcases o84w with ⟨q, _⟩ | ⟨g, ex, q, _, _, _, q2⟩; injection q with _ _ q; omega; injection q with _ _ q; rw [q]; exact Nat.le_trans q2 (by decide)) (by omega) hn1 hb_48 (by first | exact d_o84_b_48 | exact (fun k hk e => by have := (o84.ge k hk).1; omega))) rfl rfl ?_
          rintro _ w51 ⟨a88', c88', M88, rfl, hc88, hF88, hM88, a49⟩
          have S := S.agrN a49 (fun k e => Nat.le_trans szS (o84.ge k e).1)
          have hb_3 := hb_3.step a49 (fun e => d84_3 _ e rfl)
          have hb_5 := hb_5.step a49 (fun e => d84_5 _ e rfl)
          have hb_6 := hb_6.step a49 (fun e => d84_6 _ e rfl)
          have szD := Nat.le_trans szD a49.size
          have d88_5 : ∀ k, M88 k → k ≠ b_5 := (fun k hk e => by have := hM88 k hk; omega)
          have d88_3 : ∀ k, M88 k → k ≠ b_3 := (fun k hk e => by have := hM88 k hk; omega)
          have d88_6 : ∀ k, M88 k → k ≠ b_6 := (fun k hk e => by have := hM88 k hk; omega)
          refine RD.backW rfl (a49.mono fun k _ e => .inr (Nat.le_trans szD84 (o84.ge k e).1)) ?_
          refine RD.take 7 rfl (by kernel_rfl) (by kernel_rfl) (by kernel_rfl) (fun w' s' => .assign rfl) rfl rfl ?_
          refine RD.all [8] (by kernel_rfl) rfl (RDs.cons rfl ?_ (RDs.nil))
          refine RL.store sh39 rfl rfl rfl hb_5 (by exact Nat.le_of_ble_eq_true rfl) (by rfl) rfl (fun w53 z53 hb_5 a53 => ?_)
          have S := S.upd a53 ge_5
          have hb_3 := hb_3.upd a53 n_3__5
          have hb_6 := hb_6.upd a53 n_5__6.symm
          have szD := Nat.le_trans szD a53.size
          have hF88 := hF88.updD a53 d88_5
          have hb_5 : Has w53 b_5 ([.int .i64 0, .int .i64 0, .int .i64 0]) _ := hb_5.now (by kernel_rfl)
          refine RD.backW rfl (a53.mono fun k _ e => e ▸ (.inl (rfl))) ?_
          refine RD.done (by kernel_rfl) (RC.back ?_)
          refine RC.done (rs := [.tmp 4, .cell 5 39]) (vs := [_, _]) rfl rfl ⟨rfl, ⟨_, rfl, .inr ⟨[.int .i64 0, .int .i64 0, .int .i64 0], sh39, hb_5.row, rfl⟩⟩, trivial⟩ ?_
          -- end 9
          exact absurd k29 n22
      ·
        have n29 := h38
        refine RC.seq ?_
        refine RC.region rfl ?_
        refine RL.ev (.move rfl) rfl rfl ?_
        refine RL.ev (.len sl22 rfl) rfl rfl ?_
        refine RL.ev (.bin rfl rfl rfl) rfl rfl ?_
        refine RL.ev (.assign rfl) rfl rfl ?_
        refine RL.nil (RC.back ?_)
        refine RC.cond_dec rfl (fun h54 => ?_) (fun h54 => ?_)
        ·
          have k51 : l.length = 0 := (by omega)
          refine RC.seq ?_
          refine RC.region rfl ?_
          refine RL.ev (.move rfl) rfl rfl ?_
          refine RL.call rfl ok73 (c_none w_5) rfl rfl ?_
          rintro _ w55 ⟨rfl, s56⟩
          have S := S.trans s56
          have hb_3 := hb_3.sub s56
          have hb_5 := hb_5.sub s56
          refine RL.ev (.assign rfl) rfl rfl ?_
          refine RL.store sh39 rfl rfl rfl hb_5 (by exact Nat.le_of_ble_eq_true rfl) (by rfl) rfl (fun w57 z57 hb_5 a57 => ?_)
          have S := S.upd a57 ge_5
          have hb_3 := hb_3.upd a57 n_3__5
          have hb_5 : Has w57 b_5 ([.int .i64 3, .int .i64 0, .int .i64 0]) _ := hb_5.now (by kernel_rfl)
          refine RL.nil (RC.back ?_)
          refine RC.done (rs := [.tmp 4, .cell 5 39]) (vs := [_, _]) rfl rfl ⟨rfl, ⟨_, rfl, .inr ⟨[.int .i64 3, .int .i64 0, .int .i64 0], sh39, hb_5.row, rfl⟩⟩, trivial⟩ ?_
          -- end 10
          have he : heapM l o = (l, ⟨3, 0, 0⟩) := (by rw [heapM, if_neg n10, if_neg n22, if_pos k51])
          rw [he]
          exact ⟨S, _, _, M, rfl, hc, hF.sub S, Up.refl _ _⟩
        ·
          have n51 : 0 < l.length := (by omega)
          obtain ⟨y, hy⟩ := getSome (l := l) (i := 0) n51
          have hva := valAt_get hy
          refine RC.skip (RC.back ?_)
          refine RC.seq ?_
          refine RC.drawD (fun k => False) [10] w_5.heap.size 11 rfl rfl mxo (fun w58 s59 => ?_)
          have hNN : ∀ k, ((False) ∨ w_5.heap.size ≤ k) → w.heap.size ≤ k := fun k e => e.elim (fun e => e.elim) (fun e => Nat.le_trans S.size e)
          have ent_S := S.size
          have hN0 : ∀ k, w_5.heap.size ≤ k → w.heap.size ≤ k := fun k e => Nat.le_trans S.size e
          have ltD_b_3 := hb_3.lt
          have ltD_b_5 := hb_5.lt
          have szD := Nat.le_refl w_5.heap.size
          have S := S.trans s59
          have hb_3 := hb_3.sub s59
          have hb_5 := hb_5.sub s59
          have szD := Nat.le_trans szD s59.size
          refine RD.take 0 rfl (by kernel_rfl) (by kernel_rfl) (by kernel_rfl) (fun w' s' => .move rfl) rfl rfl ?_
          refine RD.take 1 rfl (by kernel_rfl) (by kernel_rfl) (by kernel_rfl) (fun w' s' => .indexS sl22 rfl rfl (by omega) (hl.is (i := 0) (by simp only [List.length_map, List.length_cons, List.length_nil]; omega))) rfl rfl ?_
          refine RD.take 2 rfl (by kernel_rfl) (by kernel_rfl) (by kernel_rfl) (fun w' s' => .fieldA fo45_0 rfl) rfl rfl ?_
          refine RD.take 3 rfl (by kernel_rfl) (by kernel_rfl) (by kernel_rfl) (fun w' s' => .load1 sh2 rfl ((hl.sub (S.agrN s' hNN)).cell (enc := It.cells) (i := 0) (j := 0) hy rfl)) rfl rfl ?_
          refine RD.take 4 rfl (by kernel_rfl) (by kernel_rfl) (by kernel_rfl) (fun w' s' => .move rfl) rfl rfl ?_
          refine RD.take 5 rfl (by kernel_rfl) (by kernel_rfl) (by kernel_rfl) (fun w' s' => .indexS sl22 rfl rfl (by omega) (hl.is (i := 0) (by simp only [List.length_map, List.length_cons, List.length_nil]; omega))) rfl rfl ?_
          refine RD.take 6 rfl (by kernel_rfl) (by kernel_rfl) (by kernel_rfl) (fun w' s' => .fieldA fo45_1 rfl) rfl rfl ?_
          refine RD.take 7 rfl (by kernel_rfl) (by kernel_rfl) (by kernel_rfl) (fun w' s' => .load1 sh2 rfl ((hl.sub (S.agrN s' hNN)).cell (enc := It.cells) (i := 0) (j := 1) hy rfl)) rfl rfl ?_
          refine RD.take 8 rfl (by kernel_rfl) (by kernel_rfl) (by kernel_rfl) (fun w' s' => .buildS ze39 pl39 rfl rfl) rfl rfl ?_
          refine RD.all [9] (by kernel_rfl) rfl (RDs.cons rfl ?_ (RDs.nil))
          refine RL.alloc ze39 rfl rfl (fun b_9 w_9 e_9 z_9 hb_9 s_9 => ?_)
          have fr_b_9 : w_5.heap.size ≤ b_9 := by rw [e_9]; exact szD
          have ge_9 := S.le e_9
          have n_3__9 := hb_3.ne e_9
          have n_5__9 := hb_5.ne e_9
          have S := S.trans s_9
          have hb_3 := hb_3.sub s_9
          have hb_5 := hb_5.sub s_9
          have szD := Nat.le_trans szD s_9.size
          refine RD.back s_9.agr ?_
          refine RD.all [10] (by kernel_rfl) rfl (RDs.cons rfl ?_ (RDs.nil))
          refine RL.store sh39 rfl rfl rfl hb_9 (by exact Nat.le_of_ble_eq_true rfl) (by rfl) rfl (fun w60 z60 hb_9 a60 => ?_)
          have S := S.upd a60 ge_9
          have hb_3 := hb_3.upd a60 n_3__9
          have hb_5 := hb_5.upd a60 n_5__9
          have szD := Nat.le_trans szD a60.size
          have hb_9 : Has w60 b_9 ([.int .i64 0, .int .i64 y.k, .int .i64 y.v]) _ := hb_9.now (by kernel_rfl)
          refine RD.backW rfl (a60.mono fun k _ e => e ▸ (.inr fr_b_9)) ?_
          refine RD.done (by kernel_rfl) (RC.back ?_)
          refine RC.seq ?_
          refine RC.seq ?_
          refine RC.region rfl ?_
          refine RL.ev (.field0 fo34_1 rfl) rfl rfl ?_
          refine RL.ev (.load1 sh3 rfl (hb_3.cell rfl)) rfl rfl ?_
          refine RL.ev (.bin rfl rfl rfl) rfl rfl ?_
          refine RL.nil (RC.back ?_)
          refine RC.cond_dec rfl (fun h61 => ?_) (fun h61 => ?_)
          ·
            have k68 := h61
            refine RC.region rfl ?_
            refine RL.ev (.move rfl) rfl rfl ?_
            refine RL.ev (.sliceLo sl22 rfl rfl (by omega)) rfl rfl ?_
            refine RL.ev (.assign rfl) rfl rfl ?_
            refine RL.nil (RC.back ?_)
            refine RC.seq ?_
            refine RC.drawD (fun k => k = b_5) [3] w60.heap.size 4 rfl rfl mxo (fun w62 s63 => ?_)
            have hNN : ∀ k, ((k = b_5) ∨ w60.heap.size ≤ k) → w.heap.size ≤ k := fun k e => e.elim (fun e => e ▸ ge_5) (fun e => Nat.le_trans S.size e)
            have ent_S := S.size
            have hN0 : ∀ k, w60.heap.size ≤ k → w.heap.size ≤ k := fun k e => Nat.le_trans S.size e
            have ltD_b_3 := hb_3.lt
            have ltD_b_5 := hb_5.lt
            have ltD_b_9 := hb_9.lt
            have szD := Nat.le_refl w60.heap.size
            have S := S.trans s63
            have hb_3 := hb_3.sub s63
            have hb_5 := hb_5.sub s63
            have hb_9 := hb_9.sub s63
            have szD := Nat.le_trans szD s63.size
            refine RD.take 0 rfl (by kernel_rfl) (by kernel_rfl) (by kernel_rfl) (fun w' s' => .move rfl) rfl rfl ?_
            refine RD.take 1 rfl (by kernel_rfl) (by kernel_rfl) (by kernel_rfl) (fun w' s' => .loadR ([.int .i64 0, .int .i64 y.k, .int .i64 y.v]) sh39 rfl (hb_9.step s' (fun e => e.elim (fun e => n_5__9.symm e) (fun e => Nat.not_le.2 ltD_b_9 e))).row rfl) rfl rfl ?_
            refine RD.take 2 rfl (by kernel_rfl) (by kernel_rfl) (by kernel_rfl) (fun w' s' => .assign rfl) rfl rfl ?_
            refine RD.all [3] (by kernel_rfl) rfl (RDs.cons rfl ?_ (RDs.nil))
            refine RL.store sh39 rfl rfl rfl hb_5 (by exact Nat.le_of_ble_eq_true rfl) (by rfl) rfl (fun w64 z64 hb_5 a64 => ?_)
            have S := S.upd a64 ge_5
            have hb_3 := hb_3.upd a64 n_3__5
            have hb_9 := hb_9.upd a64 n_5__9.symm
            have szD := Nat.le_trans szD a64.size
            have hb_5 : Has w64 b_5 ([.int .i64 0, .int .i64 y.k, .int .i64 y.v]) _ := hb_5.now (by kernel_rfl)
            refine RD.backW rfl (a64.mono fun k _ e => e ▸ (.inl (rfl))) ?_
            refine RD.done (by kernel_rfl) (RC.back ?_)
            refine RC.done (rs := [.tmp 4, .cell 5 39]) (vs := [_, _]) rfl rfl ⟨rfl, ⟨_, rfl, .inr ⟨[.int .i64 0, .int .i64 y.k, .int .i64 y.v], sh39, hb_5.row, rfl⟩⟩, trivial⟩ ?_
            -- end 11
            have he : heapM l o = (l.drop 1, ⟨0, y.k, y.v⟩) := (by rw [heapM, if_neg n10, if_neg n22, if_neg (by omega), if_pos k68, hva])
            rw [he]
            exact ⟨S, _, _, M, by rw [List.length_drop]; rfl, by rw [List.length_drop]; show _ ≤ c - 1; omega, (hF.sub S).imp (fun u h => slDropM h 1 hc), Up.refl _ _⟩
          ·
            have n68 := h61
            refine RC.skip (RC.back ?_)
            refine RC.seq ?_
            refine RC.drawD (fun k => k = b_5) [3] w60.heap.size 4 rfl rfl mxo (fun w65 s66 => ?_)
            have hNN : ∀ k, ((k = b_5) ∨ w60.heap.size ≤ k) → w.heap.size ≤ k := fun k e => e.elim (fun e => e ▸ ge_5) (fun e => Nat.le_trans S.size e)
            have ent_S := S.size
            have hN0 : ∀ k, w60.heap.size ≤ k → w.heap.size ≤ k := fun k e => Nat.le_trans S.size e
            have ltD_b_3 := hb_3.lt
            have ltD_b_5 := hb_5.lt
            have ltD_b_9 := hb_9.lt
            have szD := Nat.le_refl w60.heap.size
            have S := S.trans s66
            have hb_3 := hb_3.sub s66
            have hb_5 := hb_5.sub s66
            have hb_9 := hb_9.sub s66
            have szD := Nat.le_trans szD s66.size
            refine RD.take 0 rfl (by kernel_rfl) (by kernel_rfl) (by kernel_rfl) (fun w' s' => .move rfl) rfl rfl ?_
            refine RD.take 1 rfl (by kernel_rfl) (by kernel_rfl) (by kernel_rfl) (fun w' s' => .loadR ([.int .i64 0, .int .i64 y.k, .int .i64 y.v]) sh39 rfl (hb_9.step s' (fun e => e.elim (fun e => n_5__9.symm e) (fun e => Nat.not_le.2 ltD_b_9 e))).row rfl) rfl rfl ?_
            refine RD.take 2 rfl (by kernel_rfl) (by kernel_rfl) (by kernel_rfl) (fun w' s' => .assign rfl) rfl rfl ?_
            refine RD.all [3] (by kernel_rfl) rfl (RDs.cons rfl ?_ (RDs.nil))
            refine RL.store sh39 rfl rfl rfl hb_5 (by exact Nat.le_of_ble_eq_true rfl) (by rfl) rfl (fun w67 z67 hb_5 a67 => ?_)
            have S := S.upd a67 ge_5
            have hb_3 := hb_3.upd a67 n_3__5
            have hb_9 := hb_9.upd a67 n_5__9.symm
            have szD := Nat.le_trans szD a67.size
            have hb_5 : Has w67 b_5 ([.int .i64 0, .int .i64 y.k, .int .i64 y.v]) _ := hb_5.now (by kernel_rfl)
            refine RD.backW rfl (a67.mono fun k _ e => e ▸ (.inl (rfl))) ?_
            refine RD.done (by kernel_rfl) (RC.back ?_)
            refine RC.done (rs := [.tmp 4, .cell 5 39]) (vs := [_, _]) rfl rfl ⟨rfl, ⟨_, rfl, .inr ⟨[.int .i64 0, .int .i64 y.k, .int .i64 y.v], sh39, hb_5.row, rfl⟩⟩, trivial⟩ ?_
            -- end 12
            have he : heapM l o = (l, ⟨0, y.k, y.v⟩) := (by rw [heapM, if_neg n10, if_neg n22, if_neg (by omega), if_neg n68, hva])
            rw [he]
            exact ⟨S, _, _, M, rfl, hc, hF.sub S, Up.refl _ _⟩
end Go.Proofs.Ytjafbffehmombaa
set_option linter.unusedVariables false
set_option linter.unusedSimpArgs false
namespace Go.Proofs.Ytjafbffehmombaa
open Go Go.XL
theorem c_boxes (w : World) : FC Try.prog 50 [] w (Val (.agg #[.func (.func 61) #[] #[], .func (.func 63) #[] #[], .func (.func 64) #[] #[], .func (.func 66) #[] #[]]) w) := by
  refine FC.intro Try.func50 rfl Try.ntmps50 rfl ?_
  have S := Sub.refl w
  refine RC.seq ?_
  refine RC.region rfl ?_
  refine RL.alloc ze82 rfl rfl (fun b_0 w_0 e_0 z_0 hb_0 s_0 => ?_)
  have ge_0 := S.le e_0
  have S := S.trans s_0
  refine RL.nil (RC.back ?_)
  refine RC.seq ?_
  refine RC.region rfl ?_
  refine RL.ev (.buildA ze82 ar82 rfl rfl) rfl rfl ?_
  refine RL.store sh82 rfl rfl rfl hb_0 (by exact Nat.le_of_ble_eq_true rfl) (by rfl) rfl (fun w1 z1 hb_0 a1 => ?_)
  have S := S.upd a1 ge_0
  have hb_0 : Has w1 b_0 ([.func (.func 61) #[] #[], .func (.func 63) #[] #[], .func (.func 64) #[] #[], .func (.func 66) #[] #[]]) _ := hb_0.now (by kernel_rfl)
  refine RL.nil (RC.back ?_)
  refine RC.done (rs := [.cell 0 82]) (vs := [_]) rfl rfl ⟨⟨_, rfl, .inr ⟨[.func (.func 61) #[] #[], .func (.func 63) #[] #[], .func (.func 64) #[] #[], .func (.func 66) #[] #[]], sh82, hb_0.row, rfl⟩⟩, trivial⟩ ?_
  -- end 1
  exact ⟨rfl, S⟩
theorem c_box1 (b : Nat) (p : Ph) (m : Mo) (hs : Srt m.map) (hl200 : m.map.length ≤ 200) (hc : m.map.length ≤ p.c1) (o : OpT) (hok : okP o) (w : World) (M : Nat → Prop) (hF : Ft M (fun u => Sl u p.a1 2 (m.map.map It.cells)) w) (hb : Has w b (moC p m) 25) (hn : ∀ k, M k → k ≠ b) :
    FC Try.prog 61 [.pointer (some ⟨b, 0, none⟩), .agg o.cells.toArray] w (fun u w' => ∃ a' c' M', u = .agg (pairsM m.map o).2.cells.toArray ∧ (pairsM m.map o).1.length ≤ c' ∧ Ft M' (fun u => Sl u a' 2 ((pairsM m.map o).1.map It.cells)) w' ∧ Up M w M' ∧ Has w' b [.slice a' (pairsM m.map o).1.length c', .slice p.a2 m.tab.length p.c2, .slice p.a3 m.row.length p.c3, .slice p.a4 m.heap.length p.c4] 25 ∧ Agr (· = b) w w') := by
  have G : Agr (· = b) w w := Agr.refl _ _
  refine FC.intro Try.func61 rfl Try.ntmps61 rfl ?_
  have ltb := hb.lt
  refine RC.seq ?_
  refine RC.region rfl ?_
  refine RL.box rfl rfl rfl (fun b_3 w_3 e_3 z_3 hb_3 s_3 => ?_)
  have n__3 := hb.ne e_3
  have d_hF_b_3 := hF.neNew e_3
  have hb := hb.sub s_3
  have hF := hF.sub s_3
  have geG_3 := agLe G e_3
  have G := G.trans s_3.agr
  have hb_3 : Has w_3 b_3 ([.int .i64 o.box, .int .i64 o.kind, .int .i64 o.a, .int .i64 o.b]) _ := hb_3
  refine RL.alloc ze39 rfl rfl (fun b_4 w_4 e_4 z_4 hb_4 s_4 => ?_)
  have n__4 := hb.ne e_4
  have n_3__4 := hb_3.ne e_4
  have d_hF_b_4 := hF.neNew e_4
  have hb := hb.sub s_4
  have hF := hF.sub s_4
  have geG_4 := agLe G e_4
  have G := G.trans s_4.agr
  have hb_3 := hb_3.sub s_4
  refine RL.nil (RC.back ?_)
  refine RC.seq ?_
  refine RC.drawD (fun k => False) [11] w_4.heap.size 12 rfl rfl mxo (fun w1 s2 => ?_)
  have ltD_b := hb.lt
  have ltD_hF := fun k hk => (hF.ge k hk).2
  have ltD_b_3 := hb_3.lt
  have ltD_b_4 := hb_4.lt
  have szD := Nat.le_refl w_4.heap.size
  have hb := hb.sub s2
  have hF := hF.sub s2
  have G := G.trans s2.agr
  have hb_3 := hb_3.sub s2
  have hb_4 := hb_4.sub s2
  have szD := Nat.le_trans szD s2.size
  refine RD.take 0 rfl (by kernel_rfl) (by kernel_rfl) (by kernel_rfl) (fun w' s' => .move rfl) rfl rfl ?_
  refine RD.take 1 rfl (by kernel_rfl) (by kernel_rfl) (by kernel_rfl) (fun w' s' => .nilCheck rfl) rfl rfl ?_
  refine RD.take 2 rfl (by kernel_rfl) (by kernel_rfl) (by kernel_rfl) (fun w' s' => .field0 fo25_0 rfl) rfl rfl ?_
  refine RD.take 3 rfl (by kernel_rfl) (by kernel_rfl) (by kernel_rfl) (fun w' s' => .load1 sh22 rfl ((hb.step s' (fun e => e.elim (fun e => e.elim) (fun e => Nat.not_le.2 ltD_b e))).cell rfl)) rfl rfl ?_
  refine RD.take 4 rfl (by kernel_rfl) (by kernel_rfl) (by kernel_rfl) (fun w' s' => .loadR ([.int .i64 o.box, .int .i64 o.kind, .int .i64 o.a, .int .i64 o.b]) sh34 rfl (hb_3.step s' (fun e => e.elim (fun e => e.elim) (fun e => Nat.not_le.2 ltD_b_3 e))).row rfl) rfl rfl ?_
  refine RD.all [5, 9] (by kernel_rfl) rfl (RDs.cons rfl ?_ (RDs.cons rfl ?_ (RDs.nil)))
  ·
    refine RL.call rfl ok62 (c_pairs m.map p.a1 p.c1 _ rfl hs hl200 hc o hok w1 M hF) rfl rfl ?_
    rintro _ w3 ⟨s4, a', c', M', rfl, hc', hF', hup⟩
    have d_hF'_b := upNe hup hn hb.lt
    have d_hF'_b_3 := upNe hup d_hF_b_3 hb_3.lt
    have d_hF'_b_4 := upNe hup d_hF_b_4 hb_4.lt
    have hup := hup.le G.size
    have hb := hb.sub s4
    have hF := hF.sub s4
    have G := G.trans s4.agr
    have hb_3 := hb_3.sub s4
    have hb_4 := hb_4.sub s4
    have szD := Nat.le_trans szD s4.size
    refine RD.back s4.agr ?_
    refine RD.take 6 rfl (by kernel_rfl) (by kernel_rfl) (by kernel_rfl) (fun w' s' => .move rfl) rfl rfl ?_
    refine RD.take 7 rfl (by kernel_rfl) (by kernel_rfl) (by kernel_rfl) (fun w' s' => .extract rfl rfl) rfl rfl ?_
    refine RD.take 8 rfl (by kernel_rfl) (by kernel_rfl) (by kernel_rfl) (fun w' s' => .extract rfl rfl) rfl rfl ?_
    refine RD.all [9] (by kernel_rfl) rfl (RDs.cons rfl ?_ (RDs.nil))
    refine RL.alloc ze39 rfl rfl (fun b_6 w_6 e_6 z_6 hb_6 s_6 => ?_)
    have fr_b_6 : w_4.heap.size ≤ b_6 := by rw [e_6]; exact szD
    have n__6 := hb.ne e_6
    have n_3__6 := hb_3.ne e_6
    have n_4__6 := hb_4.ne e_6
    have d_hF'_b_6 := hF'.neNew e_6
    have hb := hb.sub s_6
    have geG_6 := agLe G e_6
    have G := G.trans s_6.agr
    have hb_3 := hb_3.sub s_6
    have hb_4 := hb_4.sub s_6
    have szD := Nat.le_trans szD s_6.size
    have hF' := hF'.sub s_6
    refine RD.back s_6.agr ?_
    refine RD.take 10 rfl (by kernel_rfl) (by kernel_rfl) (by kernel_rfl) (fun w' s' => .assign rfl) rfl rfl ?_
    refine RD.all [11] (by kernel_rfl) rfl (RDs.cons rfl ?_ (RDs.nil))
    refine RL.store sh39 rfl rfl rfl hb_6 (by exact Nat.le_of_ble_eq_true rfl) (by rfl) rfl (fun w5 z5 hb_6 a5 => ?_)
    have hb := hb.upd a5 n__6
    have G := agNew G a5 geG_6
    have hb_3 := hb_3.upd a5 n_3__6
    have hb_4 := hb_4.upd a5 n_4__6
    have szD := Nat.le_trans szD a5.size
    have hF' := hF'.updD a5 d_hF'_b_6
    have hb_6 : Has w5 b_6 ([.int .i64 (pairsM m.map o).2.e, .int .i64 (pairsM m.map o).2.a, .int .i64 (pairsM m.map o).2.b]) _ := hb_6.now (by kernel_rfl)
    refine RD.backW rfl (a5.mono fun k _ e => e ▸ (.inr fr_b_6)) ?_
    refine RD.done (by kernel_rfl) (RC.back ?_)
    refine RC.seq ?_
    refine RC.region rfl ?_
    refine RL.ev (.move rfl) rfl rfl ?_
    refine RL.ev (.move rfl) rfl rfl ?_
    refine RL.ev (.nilCheck rfl) rfl rfl ?_
    refine RL.ev (.field0 fo25_0 rfl) rfl rfl ?_
    refine RL.store sh22 rfl rfl rfl hb (by exact Nat.le_of_ble_eq_true rfl) (by rfl) rfl (fun w6 z6 hb a6 => ?_)
    have G := G.trans a6
    have hb_3 := hb_3.upd a6 n__3.symm
    have hb_4 := hb_4.upd a6 n__4.symm
    have hF' := hF'.updD a6 d_hF'_b
    have hb_6 := hb_6.upd a6 n__6.symm
    have hb : Has w6 b ([.slice a' (pairsM m.map o).1.length c', .slice p.a2 m.tab.length p.c2, .slice p.a3 m.row.length p.c3, .slice p.a4 m.heap.length p.c4]) _ := hb
    refine RL.nil (RC.back ?_)
    refine RC.seq ?_
    refine RC.region rfl ?_
    refine RL.ev (.loadR ([.int .i64 (pairsM m.map o).2.e, .int .i64 (pairsM m.map o).2.a, .int .i64 (pairsM m.map o).2.b]) sh39 rfl hb_6.row rfl) rfl rfl ?_
    refine RL.store sh39 rfl rfl rfl hb_4 (by exact Nat.le_of_ble_eq_true rfl) (by rfl) rfl (fun w7 z7 hb_4 a7 => ?_)
    have hb := hb.upd a7 n__4
    have G := agNew G a7 geG_4
    have hb_3 := hb_3.upd a7 n_3__4
    have hF' := hF'.updD a7 d_hF'_b_4
    have hb_6 := hb_6.upd a7 n_4__6.symm
    have hb_4 : Has w7 b_4 ([.int .i64 (pairsM m.map o).2.e, .int .i64 (pairsM m.map o).2.a, .int .i64 (pairsM m.map o).2.b]) _ := hb_4.now (by kernel_rfl)
    refine RL.nil (RC.back ?_)
    refine RC.done (rs := [.cell 4 39]) (vs := [_]) rfl rfl ⟨⟨_, rfl, .inr ⟨[.int .i64 (pairsM m.map o).2.e, .int .i64 (pairsM m.map o).2.a, .int .i64 (pairsM m.map o).2.b], sh39, hb_4.row, rfl⟩⟩, trivial⟩ ?_
    -- end 1
    exact ⟨a', c', M', rfl, hc', hF', hup, hb, G⟩
  ·
    refine RL.alloc ze39 rfl rfl (fun b_6 w_6 e_6 z_6 hb_6 s_6 => ?_)
    have fr_b_6 : w_4.heap.size ≤ b_6 := by rw [e_6]; exact szD
    have n__6 := hb.ne e_6
    have n_3__6 := hb_3.ne e_6
    have n_4__6 := hb_4.ne e_6
    have d_hF_b_6 := hF.neNew e_6
    have hb := hb.sub s_6
    have hF := hF.sub s_6
    have geG_6 := agLe G e_6
    have G := G.trans s_6.agr
    have hb_3 := hb_3.sub s_6
    have hb_4 := hb_4.sub s_6
    have szD := Nat.le_trans szD s_6.size
    refine RD.back s_6.agr ?_
    refine RD.all [5] (by kernel_rfl) rfl (RDs.cons rfl ?_ (RDs.nil))
    refine RL.call rfl ok62 (c_pairs m.map p.a1 p.c1 _ rfl hs hl200 hc o hok w_6 M hF) rfl rfl ?_
    rintro _ w8 ⟨s9, a', c', M', rfl, hc', hF', hup⟩
    have d_hF'_b := upNe hup hn hb.lt
    have d_hF'_b_3 := upNe hup d_hF_b_3 hb_3.lt
    have d_hF'_b_4 := upNe hup d_hF_b_4 hb_4.lt
    have d_hF'_b_6 := upNe hup d_hF_b_6 hb_6.lt
    have hup := hup.le G.size
    have hb := hb.sub s9
    have hF := hF.sub s9
    have G := G.trans s9.agr
    have hb_3 := hb_3.sub s9
    have hb_4 := hb_4.sub s9
    have szD := Nat.le_trans szD s9.size
    have hb_6 := hb_6.sub s9
    refine RD.back s9.agr ?_
    refine RD.take 6 rfl (by kernel_rfl) (by kernel_rfl) (by kernel_rfl) (fun w' s' => .move rfl) rfl rfl ?_
    refine RD.take 7 rfl (by kernel_rfl) (by kernel_rfl) (by kernel_rfl) (fun w' s' => .extract rfl rfl) rfl rfl ?_
    refine RD.take 8 rfl (by kernel_rfl) (by kernel_rfl) (by kernel_rfl) (fun w' s' => .extract rfl rfl) rfl rfl ?_
    refine RD.take 10 rfl (by kernel_rfl) (by kernel_rfl) (by kernel_rfl) (fun w' s' => .assign rfl) rfl rfl ?_
    refine RD.all [11] (by kernel_rfl) rfl (RDs.cons rfl ?_ (RDs.nil))
    refine RL.store sh39 rfl rfl rfl hb_6 (by exact Nat.le_of_ble_eq_true rfl) (by rfl) rfl (fun w10 z10 hb_6 a10 => ?_)
    have hb := hb.upd a10 n__6
    have G := agNew G a10 geG_6
    have hb_3 := hb_3.upd a10 n_3__6
    have hb_4 := hb_4.upd a10 n_4__6
    have szD := Nat.le_trans szD a10.size
    have hF' := hF'.updD a10 d_hF'_b_6
    have hb_6 : Has w10 b_6 ([.int .i64 (pairsM m.map o).2.e, .int .i64 (pairsM m.map o).2.a, .int .i64 (pairsM m.map o).2.b]) _ := hb_6.now (by kernel_rfl)
    refine RD.backW rfl (a10.mono fun k _ e => e ▸ (.inr fr_b_6)) ?_
    refine RD.done (by kernel_rfl) (RC.back ?_)
    refine RC.seq ?_
    refine RC.region rfl ?_
    refine RL.ev (.move rfl) rfl rfl ?_
    refine RL.ev (.move rfl) rfl rfl ?_
    refine RL.ev (.nilCheck rfl) rfl rfl ?_
    refine RL.ev (.field0 fo25_0 rfl) rfl rfl ?_
    refine RL.store sh22 rfl rfl rfl hb (by exact Nat.le_of_ble_eq_true rfl) (by rfl) rfl (fun w11 z11 hb a11 => ?_)
    have G := G.trans a11
    have hb_3 := hb_3.upd a11 n__3.symm
    have hb_4 := hb_4.upd a11 n__4.symm
    have hb_6 := hb_6.upd a11 n__6.symm
    have hF' := hF'.updD a11 d_hF'_b
    have hb : Has w11 b ([.slice a' (pairsM m.map o).1.length c', .slice p.a2 m.tab.length p.c2, .slice p.a3 m.row.length p.c3, .slice p.a4 m.heap.length p.c4]) _ := hb
    refine RL.nil (RC.back ?_)
    refine RC.seq ?_
    refine RC.region rfl ?_
    refine RL.ev (.loadR ([.int .i64 (pairsM m.map o).2.e, .int .i64 (pairsM m.map o).2.a, .int .i64 (pairsM m.map o).2.b]) sh39 rfl hb_6.row rfl) rfl rfl ?_
    refine RL.store sh39 rfl rfl rfl hb_4 (by exact Nat.le_of_ble_eq_true rfl) (by rfl) rfl (fun w12 z12 hb_4 a12 => ?_)
    have hb := hb.upd a12 n__4
    have G := agNew G a12 geG_4
    have hb_3 := hb_3.upd a12 n_3__4
    have hb_6 := hb_6.upd a12 n_4__6.symm
    have hF' := hF'.updD a12 d_hF'_b_4
    have hb_4 : Has w12 b_4 ([.int .i64 (pairsM m.map o).2.e, .int .i64 (pairsM m.map o).2.a, .int .i64 (pairsM m.map o).2.b]) _ := hb_4.now (by kernel_rfl)
    refine RL.nil (RC.back ?_)
    refine RC.done (rs := [.cell 4 39]) (vs := [_]) rfl rfl ⟨⟨_, rfl, .inr ⟨[.int .i64 (pairsM m.map o).2.e, .int .i64 (pairsM m.map o).2.a, .int .i64 (pairsM m.map o).2.b], sh39, hb_4.row, rfl⟩⟩, trivial⟩ ?_
    -- end 2
    exact ⟨a', c', M', rfl, hc', hF', hup, hb, G⟩
theorem c_box2 (b : Nat) (p : Ph) (m : Mo) (hs : Srt m.tab) (hl200 : m.tab.length ≤ 200) (hc : m.tab.length ≤ p.c2) (o : OpT) (hok : okP o) (w : World) (M : Nat → Prop) (hF : Ft M (fun u => Sl u p.a2 2 (m.tab.map It.cells)) w) (hb : Has w b (moC p m) 25) (hn : ∀ k, M k → k ≠ b) :
    FC Try.prog 63 [.pointer (some ⟨b, 0, none⟩), .agg o.cells.toArray] w (fun u w' => ∃ a' c' M', u = .agg (pairsM m.tab o).2.cells.toArray ∧ (pairsM m.tab o).1.length ≤ c' ∧ Ft M' (fun u => Sl u a' 2 ((pairsM m.tab o).1.map It.cells)) w' ∧ Up M w M' ∧ Has w' b [.slice p.a1 m.map.length p.c1, .slice a' (pairsM m.tab o).1.length c', .slice p.a3 m.row.length p.c3, .slice p.a4 m.heap.length p.c4] 25 ∧ Agr (· = b) w w') := by
  have G : Agr (· = b) w w := Agr.refl _ _
  refine FC.intro Try.func63 rfl Try.ntmps63 rfl ?_
  have ltb := hb.lt
  refine RC.seq ?_
  refine RC.region rfl ?_
  refine RL.box rfl rfl rfl (fun b_3 w_3 e_3 z_3 hb_3 s_3 => ?_)
  have n__3 := hb.ne e_3
  have d_hF_b_3 := hF.neNew e_3
  have hb := hb.sub s_3
  have hF := hF.sub s_3
  have geG_3 := agLe G e_3
  have G := G.trans s_3.agr
  have hb_3 : Has w_3 b_3 ([.int .i64 o.box, .int .i64 o.kind, .int .i64 o.a, .int .i64 o.b]) _ := hb_3
  refine RL.alloc ze39 rfl rfl (fun b_4 w_4 e_4 z_4 hb_4 s_4 => ?_)
  have n__4 := hb.ne e_4
  have n_3__4 := hb_3.ne e_4
  have d_hF_b_4 := hF.neNew e_4
  have hb := hb.sub s_4
  have hF := hF.sub s_4
  have geG_4 := agLe G e_4
  have G := G.trans s_4.agr
  have hb_3 := hb_3.sub s_4
  refine RL.nil (RC.back ?_)
  refine RC.seq ?_
  refine RC.drawD (fun k => False) [11] w_4.heap.size 12 rfl rfl mxo (fun w1 s2 => ?_)
  have ltD_b := hb.lt
  have ltD_hF := fun k hk => (hF.ge k hk).2
  have ltD_b_3 := hb_3.lt
  have ltD_b_4 := hb_4.lt
  have szD := Nat.le_refl w_4.heap.size
  have hb := hb.sub s2
  have hF := hF.sub s2
  have G := G.trans s2.agr
  have hb_3 := hb_3.sub s2
  have hb_4 := hb_4.sub s2
  have szD := Nat.le_trans szD s2.size
  refine RD.take 0 rfl (by kernel_rfl) (by kernel_rfl) (by kernel_rfl) (fun w' s' => .move rfl) rfl rfl ?_
  refine RD.take 1 rfl (by kernel_rfl) (by kernel_rfl) (by kernel_rfl) (fun w' s' => .nilCheck rfl) rfl rfl ?_
  refine RD.take 2 rfl (by kernel_rfl) (by kernel_rfl) (by kernel_rfl) (fun w' s' => .field0 fo25_1 rfl) rfl rfl ?_
  refine RD.take 3 rfl (by kernel_rfl) (by kernel_rfl) (by kernel_rfl) (fun w' s' => .load1 sh22 rfl ((hb.step s' (fun e => e.elim (fun e => e.elim) (fun e => Nat.not_le.2 ltD_b e))).cell rfl)) rfl rfl ?_
  refine RD.take 4 rfl (by kernel_rfl) (by kernel_rfl) (by kernel_rfl) (fun w' s' => .loadR ([.int .i64 o.box, .int .i64 o.kind, .int .i64 o.a, .int .i64 o.b]) sh34 rfl (hb_3.step s' (fun e => e.elim (fun e => e.elim) (fun e => Nat.not_le.2 ltD_b_3 e))).row rfl) rfl rfl ?_
  refine RD.all [5, 9] (by kernel_rfl) rfl (RDs.cons rfl ?_ (RDs.cons rfl ?_ (RDs.nil)))
  ·
    refine RL.call rfl ok62 (c_pairs m.tab p.a2 p.c2 _ rfl hs hl200 hc o hok w1 M hF) rfl rfl ?_
    rintro _ w3 ⟨s4, a', c', M', rfl, hc', hF', hup⟩
    have d_hF'_b := upNe hup hn hb.lt
    have d_hF'_b_3 := upNe hup d_hF_b_3 hb_3.lt
    have d_hF'_b_4 := upNe hup d_hF_b_4 hb_4.lt
    have hup := hup.le G.size
    have hb := hb.sub s4
    have hF := hF.sub s4
    have G := G.trans s4.agr
    have hb_3 := hb_3.sub s4
    have hb_4 := hb_4.sub s4
    have szD := Nat.le_trans szD s4.size
    refine RD.back s4.agr ?_
    refine RD.take 6 rfl (by kernel_rfl) (by kernel_rfl) (by kernel_rfl) (fun w' s' => .move rfl) rfl rfl ?_
    refine RD.take 7 rfl (by kernel_rfl) (by kernel_rfl) (by kernel_rfl) (fun w' s' => .extract rfl rfl) rfl rfl ?_
    refine RD.take 8 rfl (by kernel_rfl) (by kernel_rfl) (by kernel_rfl) (fun w' s' => .extract rfl rfl) rfl rfl ?_
    refine RD.all [9] (by kernel_rfl) rfl (RDs.cons rfl ?_ (RDs.nil))
    refine RL.alloc ze39 rfl rfl (fun b_6 w_6 e_6 z_6 hb_6 s_6 => ?_)
    have fr_b_6 : w_4.heap.size ≤ b_6 := by rw [e_6]; exact szD
    have n__6 := hb.ne e_6
    have n_3__6 := hb_3.ne e_6
    have n_4__6 := hb_4.ne e_6
    have d_hF'_b_6 := hF'.neNew e_6
    have hb := hb.sub s_6
    have geG_6 := agLe G e_6
    have G := G.trans s_6.agr
    have hb_3 := hb_3.sub s_6
    have hb_4 := hb_4.sub s_6
    have szD := Nat.le_trans szD s_6.size
    have hF' := hF'.sub s_6
    refine RD.back s_6.agr ?_
    refine RD.take 10 rfl (by kernel_rfl) (by kernel_rfl) (by kernel_rfl) (fun w' s' => .assign rfl) rfl rfl ?_
    refine RD.all [11] (by kernel_rfl) rfl (RDs.cons rfl ?_ (RDs.nil))
    refine RL.store sh39 rfl rfl rfl hb_6 (by exact Nat.le_of_ble_eq_true rfl) (by rfl) rfl (fun w5 z5 hb_6 a5 => ?_)
    have hb := hb.upd a5 n__6
    have G := agNew G a5 geG_6
    have hb_3 := hb_3.upd a5 n_3__6
    have hb_4 := hb_4.upd a5 n_4__6
    have szD := Nat.le_trans szD a5.size
    have hF' := hF'.updD a5 d_hF'_b_6
    have hb_6 : Has w5 b_6 ([.int .i64 (pairsM m.tab o).2.e, .int .i64 (pairsM m.tab o).2.a, .int .i64 (pairsM m.tab o).2.b]) _ := hb_6.now (by kernel_rfl)
    refine RD.backW rfl (a5.mono fun k _ e => e ▸ (.inr fr_b_6)) ?_
    refine RD.done (by kernel_rfl) (RC.back ?_)
    refine RC.seq ?_
    refine RC.region rfl ?_
    refine RL.ev (.move rfl) rfl rfl ?_
    refine RL.ev (.move rfl) rfl rfl ?_
    refine RL.ev (.nilCheck rfl) rfl rfl ?_
    refine RL.ev (.field0 fo25_1 rfl) rfl rfl ?_
    refine RL.store sh22 rfl rfl rfl hb (by exact Nat.le_of_ble_eq_true rfl) (by rfl) rfl (fun w6 z6 hb a6 => ?_)
    have G := G.trans a6
    have hb_3 := hb_3.upd a6 n__3.symm
    have hb_4 := hb_4.upd a6 n__4.symm
    have hF' := hF'.updD a6 d_hF'_b
    have hb_6 := hb_6.upd a6 n__6.symm
    have hb : Has w6 b ([.slice p.a1 m.map.length p.c1, .slice a' (pairsM m.tab o).1.length c', .slice p.a3 m.row.length p.c3, .slice p.a4 m.heap.length p.c4]) _ := hb
    refine RL.nil (RC.back ?_)
    refine RC.seq ?_
    refine RC.region rfl ?_
    refine RL.ev (.loadR ([.int .i64 (pairsM m.tab o).2.e, .int .i64 (pairsM m.tab o).2.a, .int .i64 (pairsM m.tab o).2.b]) sh39 rfl hb_6.row rfl) rfl rfl ?_
    refine RL.store sh39 rfl rfl rfl hb_4 (by exact Nat.le_of_ble_eq_true rfl) (by rfl) rfl (fun w7 z7 hb_4 a7 => ?_)
    have hb := hb.upd a7 n__4
    have G := agNew G a7 geG_4
    have hb_3 := hb_3.upd a7 n_3__4
    have hF' := hF'.updD a7 d_hF'_b_4
    have hb_6 := hb_6.upd a7 n_4__6.symm
    have hb_4 : Has w7 b_4 ([.int .i64 (pairsM m.tab o).2.e, .int .i64 (pairsM m.tab o).2.a, .int .i64 (pairsM m.tab o).2.b]) _ := hb_4.now (by kernel_rfl)
    refine RL.nil (RC.back ?_)
    refine RC.done (rs := [.cell 4 39]) (vs := [_]) rfl rfl ⟨⟨_, rfl, .inr ⟨[.int .i64 (pairsM m.tab o).2.e, .int .i64 (pairsM m.tab o).2.a, .int .i64 (pairsM m.tab o).2.b], sh39, hb_4.row, rfl⟩⟩, trivial⟩ ?_
    -- end 1
    exact ⟨a', c', M', rfl, hc', hF', hup, hb, G⟩
  ·
    refine RL.alloc ze39 rfl rfl (fun b_6 w_6 e_6 z_6 hb_6 s_6 => ?_)
    have fr_b_6 : w_4.heap.size ≤ b_6 := by rw [e_6]; exact szD
    have n__6 := hb.ne e_6
    have n_3__6 := hb_3.ne e_6
    have n_4__6 := hb_4.ne e_6
    have d_hF_b_6 := hF.neNew e_6
    have hb := hb.sub s_6
    have hF := hF.sub s_6
    have geG_6 := agLe G e_6
    have G := G.trans s_6.agr
    have hb_3 := hb_3.sub s_6
    have hb_4 := hb_4.sub s_6
    have szD := Nat.le_trans szD s_6.size
    refine RD.back s_6.agr ?_
    refine RD.all [5] (by kernel_rfl) rfl (RDs.cons rfl ?_ (RDs.nil))
    refine RL.call rfl ok62 (c_pairs m.tab p.a2 p.c2 _ rfl hs hl200 hc o hok w_6 M hF) rfl rfl ?_
    rintro _ w8 ⟨s9, a', c', M', rfl, hc', hF', hup⟩
    have d_hF'_b := upNe hup hn hb.lt
    have d_hF'_b_3 := upNe hup d_hF_b_3 hb_3.lt
    have d_hF'_b_4 := upNe hup d_hF_b_4 hb_4.lt
    have d_hF'_b_6 := upNe hup d_hF_b_6 hb_6.lt
    have hup := hup.le G.size
    have hb := hb.sub s9
    have hF := hF.sub s9
    have G := G.trans s9.agr
    have hb_3 := hb_3.sub s9
    have hb_4 := hb_4.sub s9
    have szD := Nat.le_trans szD s9.size
    have hb_6 := hb_6.sub s9
    refine RD.back s9.agr ?_
    refine RD.take 6 rfl (by kernel_rfl) (by kernel_rfl) (by kernel_rfl) (fun w' s' => .move rfl) rfl rfl ?_
    refine RD.take 7 rfl (by kernel_rfl) (by kernel_rfl) (by kernel_rfl) (fun w' s' => .extract rfl rfl) rfl rfl ?_
    refine RD.take 8 rfl (by kernel_rfl) (by kernel_rfl) (by kernel_rfl) (fun w' s' => .extract rfl rfl) rfl rfl ?_
    refine RD.take 10 rfl (by kernel_rfl) (by kernel_rfl) (by kernel_rfl) (fun w' s' => .assign rfl) rfl rfl ?_
    refine RD.all [11] (by kernel_rfl) rfl (RDs.cons rfl ?_ (RDs.nil))
    refine RL.store sh39 rfl rfl rfl hb_6 (by exact Nat.le_of_ble_eq_true rfl) (by rfl) rfl (fun w10 z10 hb_6 a10 => ?_)
    have hb := hb.upd a10 n__6
    have G := agNew G a10 geG_6
    have hb_3 := hb_3.upd a10 n_3__6
    have hb_4 := hb_4.upd a10 n_4__6
    have szD := Nat.le_trans szD a10.size
    have hF' := hF'.updD a10 d_hF'_b_6
    have hb_6 : Has w10 b_6 ([.int .i64 (pairsM m.tab o).2.e, .int .i64 (pairsM m.tab o).2.a, .int .i64 (pairsM m.tab o).2.b]) _ := hb_6.now (by kernel_rfl)
    refine RD.backW rfl (a10.mono fun k _ e => e ▸ (.inr fr_b_6)) ?_
    refine RD.done (by kernel_rfl) (RC.back ?_)
    refine RC.seq ?_
    refine RC.region rfl ?_
    refine RL.ev (.move rfl) rfl rfl ?_
    refine RL.ev (.move rfl) rfl rfl ?_
    refine RL.ev (.nilCheck rfl) rfl rfl ?_
    refine RL.ev (.field0 fo25_1 rfl) rfl rfl ?_
    refine RL.store sh22 rfl rfl rfl hb (by exact Nat.le_of_ble_eq_true rfl) (by rfl) rfl (fun w11 z11 hb a11 => ?_)
    have G := G.trans a11
    have hb_3 := hb_3.upd a11 n__3.symm
    have hb_4 := hb_4.upd a11 n__4.symm
    have hb_6 := hb_6.upd a11 n__6.symm
    have hF' := hF'.updD a11 d_hF'_b
    have hb : Has w11 b ([.slice p.a1 m.map.length p.c1, .slice a' (pairsM m.tab o).1.length c', .slice p.a3 m.row.length p.c3, .slice p.a4 m.heap.length p.c4]) _ := hb
    refine RL.nil (RC.back ?_)
    refine RC.seq ?_
    refine RC.region rfl ?_
    refine RL.ev (.loadR ([.int .i64 (pairsM m.tab o).2.e, .int .i64 (pairsM m.tab o).2.a, .int .i64 (pairsM m.tab o).2.b]) sh39 rfl hb_6.row rfl) rfl rfl ?_
    refine RL.store sh39 rfl rfl rfl hb_4 (by exact Nat.le_of_ble_eq_true rfl) (by rfl) rfl (fun w12 z12 hb_4 a12 => ?_)
    have hb := hb.upd a12 n__4
    have G := agNew G a12 geG_4
    have hb_3 := hb_3.upd a12 n_3__4
    have hb_6 := hb_6.upd a12 n_4__6.symm
    have hF' := hF'.updD a12 d_hF'_b_4
    have hb_4 : Has w12 b_4 ([.int .i64 (pairsM m.tab o).2.e, .int .i64 (pairsM m.tab o).2.a, .int .i64 (pairsM m.tab o).2.b]) _ := hb_4.now (by kernel_rfl)
    refine RL.nil (RC.back ?_)
    refine RC.done (rs := [.cell 4 39]) (vs := [_]) rfl rfl ⟨⟨_, rfl, .inr ⟨[.int .i64 (pairsM m.tab o).2.e, .int .i64 (pairsM m.tab o).2.a, .int .i64 (pairsM m.tab o).2.b], sh39, hb_4.row, rfl⟩⟩, trivial⟩ ?_
    -- end 2
    exact ⟨a', c', M', rfl, hc', hF', hup, hb, G⟩
theorem c_box3 (b : Nat) (p : Ph) (m : Mo) (hs : True) (hl200 : m.row.length ≤ 200) (hc : m.row.length ≤ p.c3) (o : OpT) (hok : okP o) (w : World) (M : Nat → Prop) (hF : Ft M (fun u => Sl u p.a3 1 (m.row.map fun x => [i6 x])) w) (hb : Has w b (moC p m) 25) (hn : ∀ k, M k → k ≠ b) :
    FC Try.prog 64 [.pointer (some ⟨b, 0, none⟩), .agg o.cells.toArray] w (fun u w' => ∃ a' c' M', u = .agg (rowM m.row o).2.cells.toArray ∧ (rowM m.row o).1.length ≤ c' ∧ Ft M' (fun u => Sl u a' 1 ((rowM m.row o).1.map fun x => [i6 x])) w' ∧ Up M w M' ∧ Has w' b [.slice p.a1 m.map.length p.c1, .slice p.a2 m.tab.length p.c2, .slice a' (rowM m.row o).1.length c', .slice p.a4 m.heap.length p.c4] 25 ∧ Agr (· = b) w w') := by
  have G : Agr (· = b) w w := Agr.refl _ _
  refine FC.intro Try.func64 rfl Try.ntmps64 rfl ?_
  have ltb := hb.lt
  refine RC.seq ?_
  refine RC.region rfl ?_
  refine RL.box rfl rfl rfl (fun b_3 w_3 e_3 z_3 hb_3 s_3 => ?_)
  have n__3 := hb.ne e_3
  have d_hF_b_3 := hF.neNew e_3
  have hb := hb.sub s_3
  have hF := hF.sub s_3
  have geG_3 := agLe G e_3
  have G := G.trans s_3.agr
  have hb_3 : Has w_3 b_3 ([.int .i64 o.box, .int .i64 o.kind, .int .i64 o.a, .int .i64 o.b]) _ := hb_3
  refine RL.alloc ze39 rfl rfl (fun b_4 w_4 e_4 z_4 hb_4 s_4 => ?_)
  have n__4 := hb.ne e_4
  have n_3__4 := hb_3.ne e_4
  have d_hF_b_4 := hF.neNew e_4
  have hb := hb.sub s_4
  have hF := hF.sub s_4
  have geG_4 := agLe G e_4
  have G := G.trans s_4.agr
  have hb_3 := hb_3.sub s_4
  refine RL.nil (RC.back ?_)
  refine RC.seq ?_
  refine RC.drawD (fun k => False) [11] w_4.heap.size 12 rfl rfl mxo (fun w1 s2 => ?_)
  have ltD_b := hb.lt
  have ltD_hF := fun k hk => (hF.ge k hk).2
  have ltD_b_3 := hb_3.lt
  have ltD_b_4 := hb_4.lt
  have szD := Nat.le_refl w_4.heap.size
  have hb := hb.sub s2
  have hF := hF.sub s2
  have G := G.trans s2.agr
  have hb_3 := hb_3.sub s2
  have hb_4 := hb_4.sub s2
  have szD := Nat.le_trans szD s2.size
  refine RD.take 0 rfl (by kernel_rfl) (by kernel_rfl) (by kernel_rfl) (fun w' s' => .move rfl) rfl rfl ?_
  refine RD.take 1 rfl (by kernel_rfl) (by kernel_rfl) (by kernel_rfl) (fun w' s' => .nilCheck rfl) rfl rfl ?_
  refine RD.take 2 rfl (by kernel_rfl) (by kernel_rfl) (by kernel_rfl) (fun w' s' => .field0 fo25_2 rfl) rfl rfl ?_
  refine RD.take 3 rfl (by kernel_rfl) (by kernel_rfl) (by kernel_rfl) (fun w' s' => .load1 sh23 rfl ((hb.step s' (fun e => e.elim (fun e => e.elim) (fun e => Nat.not_le.2 ltD_b e))).cell rfl)) rfl rfl ?_
  refine RD.take 4 rfl (by kernel_rfl) (by kernel_rfl) (by kernel_rfl) (fun w' s' => .loadR ([.int .i64 o.box, .int .i64 o.kind, .int .i64 o.a, .int .i64 o.b]) sh34 rfl (hb_3.step s' (fun e => e.elim (fun e => e.elim) (fun e => Nat.not_le.2 ltD_b_3 e))).row rfl) rfl rfl ?_
  refine RD.all [5, 9] (by kernel_rfl) rfl (RDs.cons rfl ?_ (RDs.cons rfl ?_ (RDs.nil)))
  ·
    refine RL.call rfl ok65 (c_row m.row p.a3 p.c3 _ rfl hl200 hc o hok w1 M hF) rfl rfl ?_
    rintro _ w3 ⟨s4, a', c', M', rfl, hc', hF', hup⟩
    have d_hF'_b := upNe hup hn hb.lt
    have d_hF'_b_3 := upNe hup d_hF_b_3 hb_3.lt
    have d_hF'_b_4 := upNe hup d_hF_b_4 hb_4.lt
    have hup := hup.le G.size
    have hb := hb.sub s4
    have hF := hF.sub s4
    have G := G.trans s4.agr
    have hb_3 := hb_3.sub s4
    have hb_4 := hb_4.sub s4
    have szD := Nat.le_trans szD s4.size
    refine RD.back s4.agr ?_
    refine RD.take 6 rfl (by kernel_rfl) (by kernel_rfl) (by kernel_rfl) (fun w' s' => .move rfl) rfl rfl ?_
    refine RD.take 7 rfl (by kernel_rfl) (by kernel_rfl) (by kernel_rfl) (fun w' s' => .extract rfl rfl) rfl rfl ?_
    refine RD.take 8 rfl (by kernel_rfl) (by kernel_rfl) (by kernel_rfl) (fun w' s' => .extract rfl rfl) rfl rfl ?_
    refine RD.all [9] (by kernel_rfl) rfl (RDs.cons rfl ?_ (RDs.nil))
    refine RL.alloc ze39 rfl rfl (fun b_6 w_6 e_6 z_6 hb_6 s_6 => ?_)
    have fr_b_6 : w_4.heap.size ≤ b_6 := by rw [e_6]; exact szD
    have n__6 := hb.ne e_6
    have n_3__6 := hb_3.ne e_6
    have n_4__6 := hb_4.ne e_6
    have d_hF'_b_6 := hF'.neNew e_6
    have hb := hb.sub s_6
    have geG_6 := agLe G e_6
    have G := G.trans s_6.agr
    have hb_3 := hb_3.sub s_6
    have hb_4 := hb_4.sub s_6
    have szD := Nat.le_trans szD s_6.size
    have hF' := hF'.sub s_6
    refine RD.back s_6.agr ?_
    refine RD.take 10 rfl (by kernel_rfl) (by kernel_rfl) (by kernel_rfl) (fun w' s' => .assign rfl) rfl rfl ?_
    refine RD.all [11] (by kernel_rfl) rfl (RDs.cons rfl ?_ (RDs.nil))
    refine RL.store sh39 rfl rfl rfl hb_6 (by exact Nat.le_of_ble_eq_true rfl) (by rfl) rfl (fun w5 z5 hb_6 a5 => ?_)
    have hb := hb.upd a5 n__6
    have G := agNew G a5 geG_6
    have hb_3 := hb_3.upd a5 n_3__6
    have hb_4 := hb_4.upd a5 n_4__6
    have szD := Nat.le_trans szD a5.size
    have hF' := hF'.updD a5 d_hF'_b_6
    have hb_6 : Has w5 b_6 ([.int .i64 (rowM m.row o).2.e, .int .i64 (rowM m.row o).2.a, .int .i64 (rowM m.row o).2.b]) _ := hb_6.now (by kernel_rfl)
    refine RD.backW rfl (a5.mono fun k _ e => e ▸ (.inr fr_b_6)) ?_
    refine RD.done (by kernel_rfl) (RC.back ?_)
    refine RC.seq ?_
    refine RC.region rfl ?_
    refine RL.ev (.move rfl) rfl rfl ?_
    refine RL.ev (.move rfl) rfl rfl ?_
    refine RL.ev (.nilCheck rfl) rfl rfl ?_
    refine RL.ev (.field0 fo25_2 rfl) rfl rfl ?_
    refine RL.store sh23 rfl rfl rfl hb (by exact Nat.le_of_ble_eq_true rfl) (by rfl) rfl (fun w6 z6 hb a6 => ?_)
    have G := G.trans a6
    have hb_3 := hb_3.upd a6 n__3.symm
    have hb_4 := hb_4.upd a6 n__4.symm
    have hF' := hF'.updD a6 d_hF'_b
    have hb_6 := hb_6.upd a6 n__6.symm
    have hb : Has w6 b ([.slice p.a1 m.map.length p.c1, .slice p.a2 m.tab.length p.c2, .slice a' (rowM m.row o).1.length c', .slice p.a4 m.heap.length p.c4]) _ := hb
    refine RL.nil (RC.back ?_)
    refine RC.seq ?_
    refine RC.region rfl ?_
    refine RL.ev (.loadR ([.int .i64 (rowM m.row o).2.e, .int .i64 (rowM m.row o).2.a, .int .i64 (rowM m.row o).2.b]) sh39 rfl hb_6.row rfl) rfl rfl ?_
    refine RL.store sh39 rfl rfl rfl hb_4 (by exact Nat.le_of_ble_eq_true rfl) (by rfl) rfl (fun w7 z7 hb_4 a7 => ?_)
    have hb := hb.upd a7 n__4
    have G := agNew G a7 geG_4
    have hb_3 := hb_3.upd a7 n_3__4
    have hF' := hF'.updD a7 d_hF'_b_4
    have hb_6 := hb_6.upd a7 n_4__6.symm
    have hb_4 : Has w7 b_4 ([.int .i64 (rowM m.row o).2.e, .int .i64 (rowM m.row o).2.a, .int .i64 (rowM m.row o).2.b]) _ := hb_4.now (by kernel_rfl)
    refine RL.nil (RC.back ?_)
    refine RC.done (rs := [.cell 4 39]) (vs := [_]) rfl rfl ⟨⟨_, rfl, .inr ⟨[.int .i64 (rowM m.row o).2.e, .int .i64 (rowM m.row o).2.a, .int .i64 (rowM m.row o).2.b], sh39, hb_4.row, rfl⟩⟩, trivial⟩ ?_
    -- end 1
    exact ⟨a', c', M', rfl, hc', hF', hup, hb, G⟩
  ·
    refine RL.alloc ze39 rfl rfl (fun b_6 w_6 e_6 z_6 hb_6 s_6 => ?_)
    have fr_b_6 : w_4.heap.size ≤ b_6 := by rw [e_6]; exact szD
    have n__6 := hb.ne e_6
    have n_3__6 := hb_3.ne e_6
    have n_4__6 := hb_4.ne e_6
    have d_hF_b_6 := hF.neNew e_6
    have hb := hb.sub s_6
    have hF := hF.sub s_6
    have geG_6 := agLe G e_6
    have G := G.trans s_6.agr
    have hb_3 := hb_3.sub s_6
    have hb_4 := hb_4.sub s_6
    have szD := Nat.le_trans szD s_6.size
    refine RD.back s_6.agr ?_
    refine RD.all [5] (by kernel_rfl) rfl (RDs.cons rfl ?_ (RDs.nil))
    refine RL.call rfl ok65 (c_row m.row p.a3 p.c3 _ rfl hl200 hc o hok w_6 M hF) rfl rfl ?_
    rintro _ w8 ⟨s9, a', c', M', rfl, hc', hF', hup⟩
    have d_hF'_b := upNe hup hn hb.lt
    have d_hF'_b_3 := upNe hup d_hF_b_3 hb_3.lt
    have d_hF'_b_4 := upNe hup d_hF_b_4 hb_4.lt
    have d_hF'_b_6 := upNe hup d_hF_b_6 hb_6.lt
    have hup := hup.le G.size
    have hb := hb.sub s9
    have hF := hF.sub s9
    have G := G.trans s9.agr
    have hb_3 := hb_3.sub s9
    have hb_4 := hb_4.sub s9
    have szD := Nat.le_trans szD s9.size
    have hb_6 := hb_6.sub s9
    refine RD.back s9.agr ?_
    refine RD.take 6 rfl (by kernel_rfl) (by kernel_rfl) (by kernel_rfl) (fun w' s' => .move rfl) rfl rfl ?_
    refine RD.take 7 rfl (by kernel_rfl) (by kernel_rfl) (by kernel_rfl) (fun w' s' => .extract rfl rfl) rfl rfl ?_
    refine RD.take 8 rfl (by kernel_rfl) (by kernel_rfl) (by kernel_rfl) (fun w' s' => .extract rfl rfl) rfl rfl ?_
    refine RD.take 10 rfl (by kernel_rfl) (by kernel_rfl) (by kernel_rfl) (fun w' s' => .assign rfl) rfl rfl ?_
    refine RD.all [11] (by kernel_rfl) rfl (RDs.cons rfl ?_ (RDs.nil))
    refine RL.store sh39 rfl rfl rfl hb_6 (by exact Nat.le_of_ble_eq_true rfl) (by rfl) rfl (fun w10 z10 hb_6 a10 => ?_)
    have hb := hb.upd a10 n__6
    have G := agNew G a10 geG_6
    have hb_3 := hb_3.upd a10 n_3__6
    have hb_4 := hb_4.upd a10 n_4__6
    have szD := Nat.le_trans szD a10.size
    have hF' := hF'.updD a10 d_hF'_b_6
    have hb_6 : Has w10 b_6 ([.int .i64 (rowM m.row o).2.e, .int .i64 (rowM m.row o).2.a, .int .i64 (rowM m.row o).2.b]) _ := hb_6.now (by kernel_rfl)
    refine RD.backW rfl (a10.mono fun k _ e => e ▸ (.inr fr_b_6)) ?_
    refine RD.done (by kernel_rfl) (RC.back ?_)
    refine RC.seq ?_
    refine RC.region rfl ?_
    refine RL.ev (.move rfl) rfl rfl ?_
    refine RL.ev (.move rfl) rfl rfl ?_
    refine RL.ev (.nilCheck rfl) rfl rfl ?_
    refine RL.ev (.field0 fo25_2 rfl) rfl rfl ?_
    refine RL.store sh23 rfl rfl rfl hb (by exact Nat.le_of_ble_eq_true rfl) (by rfl) rfl (fun w11 z11 hb a11 => ?_)
    have G := G.trans a11
    have hb_3 := hb_3.upd a11 n__3.symm
    have hb_4 := hb_4.upd a11 n__4.symm
    have hb_6 := hb_6.upd a11 n__6.symm
    have hF' := hF'.updD a11 d_hF'_b
    have hb : Has w11 b ([.slice p.a1 m.map.length p.c1, .slice p.a2 m.tab.length p.c2, .slice a' (rowM m.row o).1.length c', .slice p.a4 m.heap.length p.c4]) _ := hb
    refine RL.nil (RC.back ?_)
    refine RC.seq ?_
    refine RC.region rfl ?_
    refine RL.ev (.loadR ([.int .i64 (rowM m.row o).2.e, .int .i64 (rowM m.row o).2.a, .int .i64 (rowM m.row o).2.b]) sh39 rfl hb_6.row rfl) rfl rfl ?_
    refine RL.store sh39 rfl rfl rfl hb_4 (by exact Nat.le_of_ble_eq_true rfl) (by rfl) rfl (fun w12 z12 hb_4 a12 => ?_)
    have hb := hb.upd a12 n__4
    have G := agNew G a12 geG_4
    have hb_3 := hb_3.upd a12 n_3__4
    have hb_6 := hb_6.upd a12 n_4__6.symm
    have hF' := hF'.updD a12 d_hF'_b_4
    have hb_4 : Has w12 b_4 ([.int .i64 (rowM m.row o).2.e, .int .i64 (rowM m.row o).2.a, .int .i64 (rowM m.row o).2.b]) _ := hb_4.now (by kernel_rfl)
    refine RL.nil (RC.back ?_)
    refine RC.done (rs := [.cell 4 39]) (vs := [_]) rfl rfl ⟨⟨_, rfl, .inr ⟨[.int .i64 (rowM m.row o).2.e, .int .i64 (rowM m.row o).2.a, .int .i64 (rowM m.row o).2.b], sh39, hb_4.row, rfl⟩⟩, trivial⟩ ?_
    -- end 2
    exact ⟨a', c', M', rfl, hc', hF', hup, hb, G⟩
theorem c_box4 (b : Nat) (p : Ph) (m : Mo) (hs : SrtH m.heap) (hl200 : m.heap.length ≤ 200) (hc : m.heap.length ≤ p.c4) (o : OpT) (hok : okP o) (w : World) (M : Nat → Prop) (hF : Ft M (fun u => Sl u p.a4 2 (m.heap.map It.cells)) w) (hb : Has w b (moC p m) 25) (hn : ∀ k, M k → k ≠ b) :
    FC Try.prog 66 [.pointer (some ⟨b, 0, none⟩), .agg o.cells.toArray] w (fun u w' => ∃ a' c' M', u = .agg (heapM m.heap o).2.cells.toArray ∧ (heapM m.heap o).1.length ≤ c' ∧ Ft M' (fun u => Sl u a' 2 ((heapM m.heap o).1.map It.cells)) w' ∧ Up M w M' ∧ Has w' b [.slice p.a1 m.map.length p.c1, .slice p.a2 m.tab.length p.c2, .slice p.a3 m.row.length p.c3, .slice a' (heapM m.heap o).1.length c'] 25 ∧ Agr (· = b) w w') := by
  have G : Agr (· = b) w w := Agr.refl _ _
  refine FC.intro Try.func66 rfl Try.ntmps66 rfl ?_
  have ltb := hb.lt
  refine RC.seq ?_
  refine RC.region rfl ?_
  refine RL.box rfl rfl rfl (fun b_3 w_3 e_3 z_3 hb_3 s_3 => ?_)
  have n__3 := hb.ne e_3
  have d_hF_b_3 := hF.neNew e_3
  have hb := hb.sub s_3
  have hF := hF.sub s_3
  have geG_3 := agLe G e_3
  have G := G.trans s_3.agr
  have hb_3 : Has w_3 b_3 ([.int .i64 o.box, .int .i64 o.kind, .int .i64 o.a, .int .i64 o.b]) _ := hb_3
  refine RL.alloc ze39 rfl rfl (fun b_4 w_4 e_4 z_4 hb_4 s_4 => ?_)
  have n__4 := hb.ne e_4
  have n_3__4 := hb_3.ne e_4
  have d_hF_b_4 := hF.neNew e_4
  have hb := hb.sub s_4
  have hF := hF.sub s_4
  have geG_4 := agLe G e_4
  have G := G.trans s_4.agr
  have hb_3 := hb_3.sub s_4
  refine RL.nil (RC.back ?_)
  refine RC.seq ?_
  refine RC.drawD (fun k => False) [11] w_4.heap.size 12 rfl rfl mxo (fun w1 s2 => ?_)
  have ltD_b := hb.lt
  have ltD_hF := fun k hk => (hF.ge k hk).2
  have ltD_b_3 := hb_3.lt
  have ltD_b_4 := hb_4.lt
  have szD := Nat.le_refl w_4.heap.size
  have hb := hb.sub s2
  have hF := hF.sub s2
  have G := G.trans s2.agr
  have hb_3 := hb_3.sub s2
  have hb_4 := hb_4.sub s2
  have szD := Nat.le_trans szD s2.size
  refine RD.take 0 rfl (by kernel_rfl) (by kernel_rfl) (by kernel_rfl) (fun w' s' => .move rfl) rfl rfl ?_
  refine RD.take 1 rfl (by kernel_rfl) (by kernel_rfl) (by kernel_rfl) (fun w' s' => .nilCheck rfl) rfl rfl ?_
  refine RD.take 2 rfl (by kernel_rfl) (by kernel_rfl) (by kernel_rfl) (fun w' s' => .field0 fo25_3 rfl) rfl rfl ?_
  refine RD.take 3 rfl (by kernel_rfl) (by kernel_rfl) (by kernel_rfl) (fun w' s' => .load1 sh22 rfl ((hb.step s' (fun e => e.elim (fun e => e.elim) (fun e => Nat.not_le.2 ltD_b e))).cell rfl)) rfl rfl ?_
  refine RD.take 4 rfl (by kernel_rfl) (by kernel_rfl) (by kernel_rfl) (fun w' s' => .loadR ([.int .i64 o.box, .int .i64 o.kind, .int .i64 o.a, .int .i64 o.b]) sh34 rfl (hb_3.step s' (fun e => e.elim (fun e => e.elim) (fun e => Nat.not_le.2 ltD_b_3 e))).row rfl) rfl rfl ?_
  refine RD.all [5, 9] (by kernel_rfl) rfl (RDs.cons rfl ?_ (RDs.cons rfl ?_ (RDs.nil)))
  ·
    refine RL.call rfl ok67 (c_heap m.heap p.a4 p.c4 _ rfl hs hl200 hc o hok w1 M hF) rfl rfl ?_
    rintro _ w3 ⟨s4, a', c', M', rfl, hc', hF', hup⟩
    have d_hF'_b := upNe hup hn hb.lt
    have d_hF'_b_3 := upNe hup d_hF_b_3 hb_3.lt
    have d_hF'_b_4 := upNe hup d_hF_b_4 hb_4.lt
    have hup := hup.le G.size
    have hb := hb.sub s4
    have hF := hF.sub s4
    have G := G.trans s4.agr
    have hb_3 := hb_3.sub s4
    have hb_4 := hb_4.sub s4
    have szD := Nat.le_trans szD s4.size
    refine RD.back s4.agr ?_
    refine RD.take 6 rfl (by kernel_rfl) (by kernel_rfl) (by kernel_rfl) (fun w' s' => .move rfl) rfl rfl ?_
    refine RD.take 7 rfl (by kernel_rfl) (by kernel_rfl) (by kernel_rfl) (fun w' s' => .extract rfl rfl) rfl rfl ?_
    refine RD.take 8 rfl (by kernel_rfl) (by kernel_rfl) (by kernel_rfl) (fun w' s' => .extract rfl rfl) rfl rfl ?_
    refine RD.all [9] (by kernel_rfl) rfl (RDs.cons rfl ?_ (RDs.nil))
    refine RL.alloc ze39 rfl rfl (fun b_6 w_6 e_6 z_6 hb_6 s_6 => ?_)
    have fr_b_6 : w_4.heap.size ≤ b_6 := by rw [e_6]; exact szD
    have n__6 := hb.ne e_6
    have n_3__6 := hb_3.ne e_6
    have n_4__6 := hb_4.ne e_6
    have d_hF'_b_6 := hF'.neNew e_6
    have hb := hb.sub s_6
    have geG_6 := agLe G e_6
    have G := G.trans s_6.agr
    have hb_3 := hb_3.sub s_6
    have hb_4 := hb_4.sub s_6
    have szD := Nat.le_trans szD s_6.size
    have hF' := hF'.sub s_6
    refine RD.back s_6.agr ?_
    refine RD.take 10 rfl (by kernel_rfl) (by kernel_rfl) (by kernel_rfl) (fun w' s' => .assign rfl) rfl rfl ?_
    refine RD.all [11] (by kernel_rfl) rfl (RDs.cons rfl ?_ (RDs.nil))
    refine RL.store sh39 rfl rfl rfl hb_6 (by exact Nat.le_of_ble_eq_true rfl) (by rfl) rfl (fun w5 z5 hb_6 a5 => ?_)
    have hb := hb.upd a5 n__6
    have G := agNew G a5 geG_6
    have hb_3 := hb_3.upd a5 n_3__6
    have hb_4 := hb_4.upd a5 n_4__6
    have szD := Nat.le_trans szD a5.size
    have hF' := hF'.updD a5 d_hF'_b_6
    have hb_6 : Has w5 b_6 ([.int .i64 (heapM m.heap o).2.e, .int .i64 (heapM m.heap o).2.a, .int .i64 (heapM m.heap o).2.b]) _ := hb_6.now (by kernel_rfl)
    refine RD.backW rfl (a5.mono fun k _ e => e ▸ (.inr fr_b_6)) ?_
    refine RD.done (by kernel_rfl) (RC.back ?_)
    refine RC.seq ?_
    refine RC.region rfl ?_
    refine RL.ev (.move rfl) rfl rfl ?_
    refine RL.ev (.move rfl) rfl rfl ?_
    refine RL.ev (.nilCheck rfl) rfl rfl ?_
    refine RL.ev (.field0 fo25_3 rfl) rfl rfl ?_
    refine RL.store sh22 rfl rfl rfl hb (by exact Nat.le_of_ble_eq_true rfl) (by rfl) rfl (fun w6 z6 hb a6 => ?_)
    have G := G.trans a6
    have hb_3 := hb_3.upd a6 n__3.symm
    have hb_4 := hb_4.upd a6 n__4.symm
    have hF' := hF'.updD a6 d_hF'_b
    have hb_6 := hb_6.upd a6 n__6.symm
    have hb : Has w6 b ([.slice p.a1 m.map.length p.c1, .slice p.a2 m.tab.length p.c2, .slice p.a3 m.row.length p.c3, .slice a' (heapM m.heap o).1.length c']) _ := hb
    refine RL.nil (RC.back ?_)
    refine RC.seq ?_
    refine RC.region rfl ?_
    refine RL.ev (.loadR ([.int .i64 (heapM m.heap o).2.e, .int .i64 (heapM m.heap o).2.a, .int .i64 (heapM m.heap o).2.b]) sh39 rfl hb_6.row rfl) rfl rfl ?_
    refine RL.store sh39 rfl rfl rfl hb_4 (by exact Nat.le_of_ble_eq_true rfl) (by rfl) rfl (fun w7 z7 hb_4 a7 => ?_)
    have hb := hb.upd a7 n__4
    have G := agNew G a7 geG_4
    have hb_3 := hb_3.upd a7 n_3__4
    have hF' := hF'.updD a7 d_hF'_b_4
    have hb_6 := hb_6.upd a7 n_4__6.symm
    have hb_4 : Has w7 b_4 ([.int .i64 (heapM m.heap o).2.e, .int .i64 (heapM m.heap o).2.a, .int .i64 (heapM m.heap o).2.b]) _ := hb_4.now (by kernel_rfl)
    refine RL.nil (RC.back ?_)
    refine RC.done (rs := [.cell 4 39]) (vs := [_]) rfl rfl ⟨⟨_, rfl, .inr ⟨[.int .i64 (heapM m.heap o).2.e, .int .i64 (heapM m.heap o).2.a, .int .i64 (heapM m.heap o).2.b], sh39, hb_4.row, rfl⟩⟩, trivial⟩ ?_
    -- end 1
    exact ⟨a', c', M', rfl, hc', hF', hup, hb, G⟩
  ·
    refine RL.alloc ze39 rfl rfl (fun b_6 w_6 e_6 z_6 hb_6 s_6 => ?_)
    have fr_b_6 : w_4.heap.size ≤ b_6 := by rw [e_6]; exact szD
    have n__6 := hb.ne e_6
    have n_3__6 := hb_3.ne e_6
    have n_4__6 := hb_4.ne e_6
    have d_hF_b_6 := hF.neNew e_6
    have hb := hb.sub s_6
    have hF := hF.sub s_6
    have geG_6 := agLe G e_6
    have G := G.trans s_6.agr
    have hb_3 := hb_3.sub s_6
    have hb_4 := hb_4.sub s_6
    have szD := Nat.le_trans szD s_6.size
    refine RD.back s_6.agr ?_
    refine RD.all [5] (by kernel_rfl) rfl (RDs.cons rfl ?_ (RDs.nil))
    refine RL.call rfl ok67 (c_heap m.heap p.a4 p.c4 _ rfl hs hl200 hc o hok w_6 M hF) rfl rfl ?_
    rintro _ w8 ⟨s9, a', c', M', rfl, hc', hF', hup⟩
    have d_hF'_b := upNe hup hn hb.lt
    have d_hF'_b_3 := upNe hup d_hF_b_3 hb_3.lt
    have d_hF'_b_4 := upNe hup d_hF_b_4 hb_4.lt
    have d_hF'_b_6 := upNe hup d_hF_b_6 hb_6.lt
    have hup := hup.le G.size
    have hb := hb.sub s9
    have hF := hF.sub s9
    have G := G.trans s9.agr
    have hb_3 := hb_3.sub s9
    have hb_4 := hb_4.sub s9
    have szD := Nat.le_trans szD s9.size
    have hb_6 := hb_6.sub s9
    refine RD.back s9.agr ?_
    refine RD.take 6 rfl (by kernel_rfl) (by kernel_rfl) (by kernel_rfl) (fun w' s' => .move rfl) rfl rfl ?_
    refine RD.take 7 rfl (by kernel_rfl) (by kernel_rfl) (by kernel_rfl) (fun w' s' => .extract rfl rfl) rfl rfl ?_
    refine RD.take 8 rfl (by kernel_rfl) (by kernel_rfl) (by kernel_rfl) (fun w' s' => .extract rfl rfl) rfl rfl ?_
    refine RD.take 10 rfl (by kernel_rfl) (by kernel_rfl) (by kernel_rfl) (fun w' s' => .assign rfl) rfl rfl ?_
    refine RD.all [11] (by kernel_rfl) rfl (RDs.cons rfl ?_ (RDs.nil))
    refine RL.store sh39 rfl rfl rfl hb_6 (by exact Nat.le_of_ble_eq_true rfl) (by rfl) rfl (fun w10 z10 hb_6 a10 => ?_)
    have hb := hb.upd a10 n__6
    have G := agNew G a10 geG_6
    have hb_3 := hb_3.upd a10 n_3__6
    have hb_4 := hb_4.upd a10 n_4__6
    have szD := Nat.le_trans szD a10.size
    have hF' := hF'.updD a10 d_hF'_b_6
    have hb_6 : Has w10 b_6 ([.int .i64 (heapM m.heap o).2.e, .int .i64 (heapM m.heap o).2.a, .int .i64 (heapM m.heap o).2.b]) _ := hb_6.now (by kernel_rfl)
    refine RD.backW rfl (a10.mono fun k _ e => e ▸ (.inr fr_b_6)) ?_
    refine RD.done (by kernel_rfl) (RC.back ?_)
    refine RC.seq ?_
    refine RC.region rfl ?_
    refine RL.ev (.move rfl) rfl rfl ?_
    refine RL.ev (.move rfl) rfl rfl ?_
    refine RL.ev (.nilCheck rfl) rfl rfl ?_
    refine RL.ev (.field0 fo25_3 rfl) rfl rfl ?_
    refine RL.store sh22 rfl rfl rfl hb (by exact Nat.le_of_ble_eq_true rfl) (by rfl) rfl (fun w11 z11 hb a11 => ?_)
    have G := G.trans a11
    have hb_3 := hb_3.upd a11 n__3.symm
    have hb_4 := hb_4.upd a11 n__4.symm
    have hb_6 := hb_6.upd a11 n__6.symm
    have hF' := hF'.updD a11 d_hF'_b
    have hb : Has w11 b ([.slice p.a1 m.map.length p.c1, .slice p.a2 m.tab.length p.c2, .slice p.a3 m.row.length p.c3, .slice a' (heapM m.heap o).1.length c']) _ := hb
    refine RL.nil (RC.back ?_)
    refine RC.seq ?_
    refine RC.region rfl ?_
    refine RL.ev (.loadR ([.int .i64 (heapM m.heap o).2.e, .int .i64 (heapM m.heap o).2.a, .int .i64 (heapM m.heap o).2.b]) sh39 rfl hb_6.row rfl) rfl rfl ?_
    refine RL.store sh39 rfl rfl rfl hb_4 (by exact Nat.le_of_ble_eq_true rfl) (by rfl) rfl (fun w12 z12 hb_4 a12 => ?_)
    have hb := hb.upd a12 n__4
    have G := agNew G a12 geG_4
    have hb_3 := hb_3.upd a12 n_3__4
    have hb_6 := hb_6.upd a12 n_4__6.symm
    have hF' := hF'.updD a12 d_hF'_b_4
    have hb_4 : Has w12 b_4 ([.int .i64 (heapM m.heap o).2.e, .int .i64 (heapM m.heap o).2.a, .int .i64 (heapM m.heap o).2.b]) _ := hb_4.now (by kernel_rfl)
    refine RL.nil (RC.back ?_)
    refine RC.done (rs := [.cell 4 39]) (vs := [_]) rfl rfl ⟨⟨_, rfl, .inr ⟨[.int .i64 (heapM m.heap o).2.e, .int .i64 (heapM m.heap o).2.a, .int .i64 (heapM m.heap o).2.b], sh39, hb_4.row, rfl⟩⟩, trivial⟩ ?_
    -- end 2
    exact ⟨a', c', M', rfl, hc', hF', hup, hb, G⟩
end Go.Proofs.Ytjafbffehmombaa
set_option linter.unusedVariables false
set_option linter.unusedSimpArgs false
namespace Go.Proofs.Ytjafbffehmombaa
open Go Go.XL
def doM (m : Mo) (o : OpT) : Mo × ResT :=
  if o.box = 1 then ({ m with map := (pairsM m.map o).1 }, (pairsM m.map o).2)
  else if o.box = 2 then ({ m with tab := (pairsM m.tab o).1 }, (pairsM m.tab o).2)
  else if o.box = 3 then ({ m with row := (rowM m.row o).1 }, (rowM m.row o).2)
  else ({ m with heap := (heapM m.heap o).1 }, (heapM m.heap o).2)
theorem rowM_len {l : List Int} {o : OpT} (h : l.length ≤ 200) : (rowM l o).1.length ≤ 200 := by
  unfold rowM
  repeat' split
  all_goals simp <;> omega
theorem delL_le (l : List It) (key : Int) : (delL l key).length ≤ l.length := List.length_filter_le _ _
/-- the row behind an operation on keys -/
theorem pairsM_row (l : List It) (o : OpT) : (pairsM l o).1 = l ∨ (pairsM l o).1 = delL l o.a ∨ ((pairsM l o).1 = putL l o.a o.b ∧ (hasK l o.a = true ∨ l.length < 200 ∧ (o.box = 2 → crowdL l o.a < 9))) := by
  unfold pairsM
  dsimp only
  split
  · exact .inl rfl
  · split
    · split
      · exact .inl rfl
      · rename_i h
        refine .inr (.inr ⟨rfl, ?_⟩)
        cases hh : hasK l o.a with
        | true => exact .inl rfl
        | false =>
          rw [hh] at h
          simp only [true_and, not_or, not_and] at h
          exact .inr ⟨by omega, fun e => by have := h.2 e; omega⟩
    · split
      · split <;> (try split) <;> exact .inl rfl
      · split
        · exact .inl rfl
        · split
          · exact .inl rfl
          · split
            · exact .inr (.inl rfl)
            · exact .inl rfl
theorem putL_size {l : List It} (hs : Srt l) (key v : Int) : (putL l key v).length = if hasK l key then l.length else l.length + 1 := by
  obtain ⟨g0, g1, g2, g3⟩ := part_has (key := key) hs rfl
  cases hh : hasK l key with
  | true =>
    obtain ⟨x, hx, e⟩ := g0.1 hh
    have := lt_of_get hx
    rw [put_has hs hx e, List.length_append, List.length_cons, List.length_take, List.length_drop, if_pos rfl]
    omega
  | false =>
    rw [put_no hs rfl hh, List.length_append, List.length_cons, List.length_take, List.length_drop, if_neg (by simp)]
    omega
theorem pairsM_ok {l : List It} {o : OpT} (hs : Srt l) (hi : ∀ x ∈ l, inK x) (hl : l.length ≤ 200) (hok : okP o) : Srt (pairsM l o).1 ∧ (∀ x ∈ (pairsM l o).1, inK x) ∧ (pairsM l o).1.length ≤ 200 := by
  rcases pairsM_row l o with e | e | ⟨e, h⟩ <;> rw [e]
  · exact ⟨hs, hi, hl⟩
  · exact ⟨hs.sub, fun x hx => hi x (filter_sub hx), Nat.le_trans (delL_le l o.a) hl⟩
  · refine ⟨hs.put, fun x hx => ?_, ?_⟩
    · rcases putL_mem hx with rfl | hx
      · exact ⟨hok.2.1, hok.2.2.1⟩
      · exact hi x hx
    · rw [putL_size hs]
      rcases h with h | h
      · rw [h, if_pos rfl]; exact hl
      · split <;> omega
theorem crowdL_app (l r : List It) (k : Int) : crowdL (l ++ r) k = crowdL l k + crowdL r k := by
  unfold crowdL; rw [List.filter_append, List.length_append]
theorem crowdL_cons (x : It) (l : List It) (k : Int) : crowdL (x :: l) k = (if hashOf x.k = hashOf k then 1 else 0) + crowdL l k := by
  unfold crowdL
  rw [List.filter_cons]
  by_cases h : hashOf x.k = hashOf k
  · rw [if_pos (decide_eq_true h), if_pos h, List.length_cons]; omega
  · rw [if_neg (by rw [decide_eq_false h]; simp), if_neg h]; omega
theorem crowdL_hash {k k' : Int} (h : hashOf k = hashOf k') (l : List It) : crowdL l k = crowdL l k' := by unfold crowdL; rw [h]
theorem crowdL_del (l : List It) (key k : Int) : crowdL (delL l key) k ≤ crowdL l k := by
  unfold crowdL delL
  exact ((List.filter_sublist).filter _).length_le
theorem pairsM_crowd {l : List It} {o : OpT} (hs : Srt l) (hc : ∀ x ∈ l, crowdL l x.k ≤ 9) (hb : o.box = 2) : ∀ x ∈ (pairsM l o).1, crowdL (pairsM l o).1 x.k ≤ 9 := by
  rcases pairsM_row l o with e | e | ⟨e, h⟩ <;> rw [e]
  · exact hc
  · exact fun x hx => Nat.le_trans (crowdL_del l o.a x.k) (hc x (filter_sub hx))
  · obtain ⟨n, hn⟩ : ∃ n, n = (ltL o.a l).length := ⟨_, rfl⟩
    obtain ⟨g0, g1, g2, g3⟩ := part_has (key := o.a) hs hn
    cases hh : hasK l o.a with
    | true =>
      obtain ⟨y, hy, e⟩ := g0.1 hh
      have e1 := put_has hs hy e (v := o.b)
      have e2 := split_get hy
      rw [e1]
      have key : ∀ k, crowdL (l.take n ++ ⟨o.a, o.b⟩ :: l.drop (n + 1)) k = crowdL l k := fun k => by
        conv => rhs; rw [e2]
        rw [crowdL_app, crowdL_app, crowdL_cons, crowdL_cons, e]
      intro x hx
      rw [key]
      rcases List.mem_append.1 hx with hx | hx
      · exact hc x (List.mem_of_mem_take hx)
      · rcases List.mem_cons.1 hx with rfl | hx
        · have := hc y (List.mem_of_getElem? hy); rwa [e] at this
        · exact hc x (List.mem_of_mem_drop hx)
    | false =>
      have e1 := put_no hs hn hh (v := o.b)
      rw [e1]
      have key : ∀ k, crowdL (l.take n ++ ⟨o.a, o.b⟩ :: l.drop n) k = crowdL l k + (if hashOf o.a = hashOf k then 1 else 0) := fun k => by
        conv => rhs; rw [← List.take_append_drop n l]
        have c : crowdL (⟨o.a, o.b⟩ :: l.drop n) k = (if hashOf o.a = hashOf k then 1 else 0) + crowdL (l.drop n) k := crowdL_cons _ _ _
        rw [crowdL_app, crowdL_app, c]; omega
      have h9 : crowdL l o.a < 9 := by
        rcases h with h | h
        · rw [hh] at h; cases h
        · exact h.2 hb
      intro x hx
      rw [key]
      by_cases q : hashOf o.a = hashOf x.k
      · rw [if_pos q, ← crowdL_hash q]; omega
      · rw [if_neg q]
        rcases List.mem_append.1 hx with hx | hx
        · exact hc x (List.mem_of_mem_take hx)
        · rcases List.mem_cons.1 hx with rfl | hx
          · exact absurd rfl q
          · exact hc x (List.mem_of_mem_drop hx)
theorem ins_get {l : List It} {x : It} {n : Nat} (hn : n ≤ l.length) (i : Nat) : (l.take n ++ x :: l.drop n)[i]? = if i < n then l[i]? else if i = n then some x else l[i - 1]? := by
  have hl : (l.take n).length = n := by rw [List.length_take]; omega
  by_cases h : i < n
  · rw [if_pos h, List.getElem?_append_left (by omega), List.getElem?_take_of_lt h]
  · rw [if_neg h, List.getElem?_append_right (by omega), hl]
    by_cases h2 : i = n
    · subst h2; rw [if_pos rfl, Nat.sub_self]; rfl
    · rw [if_neg h2, show i - n = (i - 1 - n) + 1 by omega, List.getElem?_cons_succ, List.getElem?_drop]; congr 1; omega
theorem whN_spec (x : It) : ∀ (l : List It), whN l x ≤ l.length ∧ (∀ k z, k < whN l x → l[k]? = some z → lessP z x) ∧ (∀ z, l[whN l x]? = some z → ¬ lessP z x)
  | [] => ⟨Nat.le_refl _, fun k z _ h => by simp at h, fun z h => by simp at h⟩
  | y :: l => by
    obtain ⟨h1, h2, h3⟩ := whN_spec x l
    by_cases q : lessP y x
    · have e : whN (y :: l) x = whN l x + 1 := by unfold whN; rw [List.takeWhile_cons, decide_eq_true q]; rfl
      rw [e]
      refine ⟨by simpa using h1, fun k z hk hz => ?_, fun z hz => h3 z (by simpa using hz)⟩
      cases k with
      | zero => simp at hz; subst hz; exact q
      | succ k => exact h2 k z (by omega) (by simpa using hz)
    · have e : whN (y :: l) x = 0 := by unfold whN; rw [List.takeWhile_cons, decide_eq_false q]; rfl
      rw [e]
      exact ⟨Nat.zero_le _, fun k z hk => absurd hk (Nat.not_lt_zero _), fun z hz => by simp at hz; subst hz; exact q⟩
theorem SrtH.ins {l : List It} (h : SrtH l) (x : It) : SrtH (l.take (whN l x) ++ x :: l.drop (whN l x)) := by
  obtain ⟨h1, h2, h3⟩ := whN_spec x l
  intro i y z hy hz
  rw [ins_get h1] at hy hz
  by_cases c1 : i + 1 < whN l x
  · rw [if_pos (by omega)] at hy; rw [if_pos c1] at hz; exact h i y z hy hz
  · rw [if_neg c1] at hz
    by_cases c2 : i + 1 = whN l x
    · rw [if_pos c2] at hz
      rw [if_pos (by omega)] at hy
      cases hz
      have := h2 i y (by omega) hy
      unfold lessP at *; omega
    · rw [if_neg c2] at hz
      rw [if_neg (by omega)] at hy
      by_cases c3 : i = whN l x
      · rw [if_pos c3] at hy
        cases hy
        exact h3 z (by rw [← hz]; congr 1; omega)
      · rw [if_neg c3] at hy
        exact h (i - 1) y z hy (by rw [← hz]; congr 1; omega)
theorem heapM_ok {l : List It} {o : OpT} (hs : SrtH l) (hi : ∀ x ∈ l, inK x) (hl : l.length ≤ 200) (hok : okP o) : SrtH (heapM l o).1 ∧ (∀ x ∈ (heapM l o).1, inK x) ∧ (heapM l o).1.length ≤ 200 := by
  unfold heapM
  split
  · exact ⟨hs, hi, hl⟩
  · split
    · split
      · exact ⟨hs, hi, hl⟩
      · obtain ⟨h1, _, _⟩ := whN_spec ⟨o.a, o.b⟩ l
        refine ⟨hs.ins _, fun x hx => ?_, by simp only [List.length_append, List.length_cons, List.length_take, List.length_drop]; omega⟩
        rcases List.mem_append.1 hx with hx | hx
        · exact hi x (List.mem_of_mem_take hx)
        · rcases List.mem_cons.1 hx with rfl | hx
          · exact ⟨hok.2.1, hok.2.2.1⟩
          · exact hi x (List.mem_of_mem_drop hx)
    · split
      · exact ⟨hs, hi, hl⟩
      · split
        · exact ⟨fun i x y hx hy => hs (1 + i) x y (by rw [← List.getElem?_drop]; exact hx) (by rw [Nat.add_assoc, ← List.getElem?_drop]; exact hy), fun x hx => hi x (List.mem_of_mem_drop hx), by simp only [List.length_drop]; omega⟩
        · exact ⟨hs, hi, hl⟩
theorem rightM_do {m : Mo} {o : OpT} (h : rightM m) (hok : okP o) : rightM (doM m o).1 := by
  obtain ⟨h1, h2, h3, h4, h5, h6, h7, h8⟩ := (rightM_iff m).1 h
  rw [rightM_iff]
  unfold doM
  split
  · obtain ⟨a, b, c⟩ := pairsM_ok h7 h3.1 h3.2 hok
    exact ⟨h1, h2, ⟨b, c⟩, h4, h5, h6, a, h8⟩
  · split
    · rename_i hb
      obtain ⟨a, b, c⟩ := pairsM_ok h8 h4.1 h4.2 hok
      exact ⟨h1, pairsM_crowd h8 h2 hb, h3, ⟨b, c⟩, h5, h6, h7, a⟩
    · split
      · exact ⟨h1, h2, h3, h4, h5, rowM_len h6, h7, h8⟩
      · obtain ⟨a, b, c⟩ := heapM_ok (o := o) h1 h5.1 h5.2 hok
        exact ⟨a, h2, h3, h4, ⟨b, c⟩, h6, h7, h8⟩
end Go.Proofs.Ytjafbffehmombaa
set_option linter.unusedVariables false
set_option linter.unusedSimpArgs false
namespace Go.Proofs.Ytjafbffehmombaa
open Go Go.XL
theorem Up.or {C C1 C2 : Nat → Prop} {w : World} (h : Up C w C1) (k : Up C w C2) : Up C w (fun x => C1 x ∨ C2 x) := fun i hi => hi.elim (h i) (k i)
theorem MoS.of {p : Ph} {m : Mo} (k1 : m.map.length ≤ p.c1) (k2 : m.tab.length ≤ p.c2) (k3 : m.row.length ≤ p.c3) (k4 : m.heap.length ≤ p.c4) (h : rightM m) : MoS p m := by
  have := (rightM_iff m).1 h
  exact ⟨k1, k2, k3, k4, by omega, by omega, by omega, by omega⟩
theorem Ft.all {M : Nat → Prop} {p : Ph} {m : Mo} {w : World} (h1 : Ft M (fun u => Sl u p.a1 2 (m.map.map It.cells)) w) (h2 : Ft M (fun u => Sl u p.a2 2 (m.tab.map It.cells)) w) (h3 : Ft M (fun u => Sl u p.a3 1 (m.row.map fun x => [i6 x])) w) (h4 : Ft M (fun u => Sl u p.a4 2 (m.heap.map It.cells)) w) : Ft M (fun u => MoR u p m) w :=
  ⟨h1.lt, fun u a => ⟨h1.imm u a, h2.imm u a, h3.imm u a, h4.imm u a⟩⟩
theorem Ft.wid {M M' : Nat → Prop} {I : World → Prop} {w : World} (h : Ft M I w) (hl : ∀ k, M' k → k < w.heap.size) (hn : ∀ k, M k → M' k) : Ft M' I w :=
  ⟨hl, fun u a => h.imm u (a.mono fun k _ e hk => e (hn k hk))⟩
def boxF (k : Int) : FuncId := if k = 1 then 61 else if k = 2 then 63 else if k = 3 then 64 else 66
theorem box_cases {o : OpT} (hok : okP o) : o.box = 1 ∨ o.box = 2 ∨ o.box = 3 ∨ o.box = 4 := by have := hok.1; unfold kindP at this; omega
theorem boxF_ok (k : Int) : calleeOK Try.prog (boxF k) = true := by
  unfold boxF
  repeat' split
  all_goals first | exact ok61 | exact ok63 | exact ok64 | exact ok66
theorem boxF_at {o : OpT} (hok : okP o) : (#[Value.func (.func 61) #[] #[], .func (.func 63) #[] #[], .func (.func 64) #[] #[], .func (.func 66) #[] #[]] : Array Value)[(o.box - 1).toNat * 1]? = some (.func (.func (boxF o.box)) #[] #[]) := by
  rcases box_cases hok with e | e | e | e <;> rw [e] <;> rfl
/-- what is done by any container's operations -/
theorem c_box (b : Nat) (p : Ph) (m : Mo) (hs : MoS p m) (hR : rightM m) (o : OpT) (hok : okP o) (w : World) (M : Nat → Prop) (hF : Ft M (fun u => MoR u p m) w) (hb : Has w b (moC p m) 25) (hn : ∀ k, M k → k ≠ b) :
    FC Try.prog (boxF o.box) [.pointer (some ⟨b, 0, none⟩), .agg o.cells.toArray] w (fun u w' => ∃ p' M', u = .agg (doM m o).2.cells.toArray ∧ MoS p' (doM m o).1 ∧ Ft M' (fun u => MoR u p' (doM m o).1) w' ∧ Up M w M' ∧ Has w' b (moC p' (doM m o).1) 25 ∧ Agr (· = b) w w') := by
  have hRd := rightM_do hR hok
  obtain ⟨h1, h2, h3, h4, h5, h6, h7, h8⟩ := (rightM_iff m).1 hR
  rcases box_cases hok with e | e | e | e
  · have hd : doM m o = ({ m with map := (pairsM m.map o).1 }, (pairsM m.map o).2) := by unfold doM; rw [if_pos e]
    rw [hd] at hRd ⊢
    rw [e, show boxF 1 = 61 from rfl]
    refine FC.mono (c_box1 b p m h7 h3.2 hs.k1 o hok w M (hF.imp fun u h => h.h1) hb hn) ?_
    rintro v w' ⟨a', c', M', rfl, hc', hF', hup, hb', ag⟩
    have hF2 := hF.updD ag hn
    have hl : ∀ k, (M k ∨ M' k) → k < w'.heap.size := fun k hk => hk.elim (hF2.lt k) (hF'.lt k)
    refine ⟨{ p with a1 := a', c1 := c' }, fun k => M k ∨ M' k, rfl, MoS.of hc' hs.k2 hs.k3 hs.k4 hRd, Ft.all (p := { p with a1 := a', c1 := c' }) (hF'.wid hl fun _ h => .inr h) ((hF2.imp fun u h => h.h2).wid hl fun _ h => .inl h) ((hF2.imp fun u h => h.h3).wid hl fun _ h => .inl h) ((hF2.imp fun u h => h.h4).wid hl fun _ h => .inl h), (Up.refl _ _).or hup, hb', ag⟩
  · have hd : doM m o = ({ m with tab := (pairsM m.tab o).1 }, (pairsM m.tab o).2) := by unfold doM; rw [if_neg (by omega), if_pos e]
    rw [hd] at hRd ⊢
    rw [e, show boxF 2 = 63 from rfl]
    refine FC.mono (c_box2 b p m h8 h4.2 hs.k2 o hok w M (hF.imp fun u h => h.h2) hb hn) ?_
    rintro v w' ⟨a', c', M', rfl, hc', hF', hup, hb', ag⟩
    have hF2 := hF.updD ag hn
    have hl : ∀ k, (M k ∨ M' k) → k < w'.heap.size := fun k hk => hk.elim (hF2.lt k) (hF'.lt k)
    refine ⟨{ p with a2 := a', c2 := c' }, fun k => M k ∨ M' k, rfl, MoS.of hs.k1 hc' hs.k3 hs.k4 hRd, Ft.all (p := { p with a2 := a', c2 := c' }) ((hF2.imp fun u h => h.h1).wid hl fun _ h => .inl h) (hF'.wid hl fun _ h => .inr h) ((hF2.imp fun u h => h.h3).wid hl fun _ h => .inl h) ((hF2.imp fun u h => h.h4).wid hl fun _ h => .inl h), (Up.refl _ _).or hup, hb', ag⟩
  · have hd : doM m o = ({ m with row := (rowM m.row o).1 }, (rowM m.row o).2) := by unfold doM; rw [if_neg (by omega), if_neg (by omega), if_pos e]
    rw [hd] at hRd ⊢
    rw [e, show boxF 3 = 64 from rfl]
    refine FC.mono (c_box3 b p m trivial h6 hs.k3 o hok w M (hF.imp fun u h => h.h3) hb hn) ?_
    rintro v w' ⟨a', c', M', rfl, hc', hF', hup, hb', ag⟩
    have hF2 := hF.updD ag hn
    have hl : ∀ k, (M k ∨ M' k) → k < w'.heap.size := fun k hk => hk.elim (hF2.lt k) (hF'.lt k)
    refine ⟨{ p with a3 := a', c3 := c' }, fun k => M k ∨ M' k, rfl, MoS.of hs.k1 hs.k2 hc' hs.k4 hRd, Ft.all (p := { p with a3 := a', c3 := c' }) ((hF2.imp fun u h => h.h1).wid hl fun _ h => .inl h) ((hF2.imp fun u h => h.h2).wid hl fun _ h => .inl h) (hF'.wid hl fun _ h => .inr h) ((hF2.imp fun u h => h.h4).wid hl fun _ h => .inl h), (Up.refl _ _).or hup, hb', ag⟩
  · have hd : doM m o = ({ m with heap := (heapM m.heap o).1 }, (heapM m.heap o).2) := by unfold doM; rw [if_neg (by omega), if_neg (by omega), if_neg (by omega)]
    rw [hd] at hRd ⊢
    rw [e, show boxF 4 = 66 from rfl]
    refine FC.mono (c_box4 b p m h1 h5.2 hs.k4 o hok w M (hF.imp fun u h => h.h4) hb hn) ?_
    rintro v w' ⟨a', c', M', rfl, hc', hF', hup, hb', ag⟩
    have hF2 := hF.updD ag hn
    have hl : ∀ k, (M k ∨ M' k) → k < w'.heap.size := fun k hk => hk.elim (hF2.lt k) (hF'.lt k)
    refine ⟨{ p with a4 := a', c4 := c' }, fun k => M k ∨ M' k, rfl, MoS.of hs.k1 hs.k2 hs.k3 hc' hRd, Ft.all (p := { p with a4 := a', c4 := c' }) ((hF2.imp fun u h => h.h1).wid hl fun _ h => .inl h) ((hF2.imp fun u h => h.h2).wid hl fun _ h => .inl h) ((hF2.imp fun u h => h.h3).wid hl fun _ h => .inl h) (hF'.wid hl fun _ h => .inr h), (Up.refl _ _).or hup, hb', ag⟩
/-- an answer: what the containers hold then, and what is told -/
def AnsM (M : Nat → Prop) (w w' : World) (q : Mo × ResT) (u : Value) : Prop := Sub w w' ∧ ∃ p' M', u = .tuple #[moV p' q.1, .agg q.2.cells.toArray] ∧ MoS p' q.1 ∧ Ft M' (fun u => MoR u p' q.1) w' ∧ Up M w M'
theorem c_do (p : Ph) (m : Mo) (hs : MoS p m) (hR : rightM m) (o : OpT) (hok : okP o) (w : World) (M : Nat → Prop) (hF : Ft M (fun u => MoR u p m) w) :
    FC Try.prog 26 [moV p m, .agg o.cells.toArray] w (fun u w' => AnsM M w w' (doM m o) u) := by
  have hbx := box_cases hok
  refine FC.intro Try.func26 rfl Try.ntmps26 rfl ?_
  have S := Sub.refl w
  refine RC.seq ?_
  refine RC.region rfl ?_
  refine RL.box rfl rfl rfl (fun b_2 w_2 e_2 z_2 hb_2 s_2 => ?_)
  have ge_2 := S.le e_2
  have d_hF_b_2 := hF.neNew e_2
  have S := S.trans s_2
  have hF := hF.sub s_2
  have hb_2 : Has w_2 b_2 ([.slice p.a1 m.map.length p.c1, .slice p.a2 m.tab.length p.c2, .slice p.a3 m.row.length p.c3, .slice p.a4 m.heap.length p.c4]) _ := hb_2
  refine RL.box rfl rfl rfl (fun b_3 w_3 e_3 z_3 hb_3 s_3 => ?_)
  have ge_3 := S.le e_3
  have n_2__3 := hb_2.ne e_3
  have d_hF_b_3 := hF.neNew e_3
  have S := S.trans s_3
  have hF := hF.sub s_3
  have hb_2 := hb_2.sub s_3
  have hb_3 : Has w_3 b_3 ([.int .i64 o.box, .int .i64 o.kind, .int .i64 o.a, .int .i64 o.b]) _ := hb_3
  refine RL.alloc ze25 rfl rfl (fun b_4 w_4 e_4 z_4 hb_4 s_4 => ?_)
  have ge_4 := S.le e_4
  have n_2__4 := hb_2.ne e_4
  have n_3__4 := hb_3.ne e_4
  have d_hF_b_4 := hF.neNew e_4
  have S := S.trans s_4
  have hF := hF.sub s_4
  have hb_2 := hb_2.sub s_4
  have hb_3 := hb_3.sub s_4
  refine RL.alloc ze39 rfl rfl (fun b_5 w_5 e_5 z_5 hb_5 s_5 => ?_)
  have ge_5 := S.le e_5
  have n_2__5 := hb_2.ne e_5
  have n_3__5 := hb_3.ne e_5
  have n_4__5 := hb_4.ne e_5
  have d_hF_b_5 := hF.neNew e_5
  have S := S.trans s_5
  have hF := hF.sub s_5
  have hb_2 := hb_2.sub s_5
  have hb_3 := hb_3.sub s_5
  have hb_4 := hb_4.sub s_5
  refine RL.nil (RC.back ?_)
  refine RC.seq ?_
  refine RC.drawD (fun k => k = b_2) [6, 8] w_5.heap.size 9 rfl rfl mxo (fun w1 s2 => ?_)
  have hNN : ∀ k, ((k = b_2) ∨ w_5.heap.size ≤ k) → w.heap.size ≤ k := fun k e => e.elim (fun e => e ▸ ge_2) (fun e => Nat.le_trans S.size e)
  have ent_S := S.size
  have hN0 : ∀ k, w_5.heap.size ≤ k → w.heap.size ≤ k := fun k e => Nat.le_trans S.size e
  have ltD_hF := fun k hk => (hF.ge k hk).2
  have ltD_b_2 := hb_2.lt
  have ltD_b_3 := hb_3.lt
  have ltD_b_4 := hb_4.lt
  have ltD_b_5 := hb_5.lt
  have szD := Nat.le_refl w_5.heap.size
  have S := S.trans s2
  have hF := hF.sub s2
  have hb_2 := hb_2.sub s2
  have hb_3 := hb_3.sub s2
  have hb_4 := hb_4.sub s2
  have hb_5 := hb_5.sub s2
  have szD := Nat.le_trans szD s2.size
  refine RD.take 1 rfl (by kernel_rfl) (by kernel_rfl) (by kernel_rfl) (fun w' s' => .field0 fo34_0 rfl) rfl rfl ?_
  refine RD.take 2 rfl (by kernel_rfl) (by kernel_rfl) (by kernel_rfl) (fun w' s' => .load1 sh3 rfl ((hb_3.step s' (fun e => e.elim (fun e => n_2__3.symm e) (fun e => Nat.not_le.2 ltD_b_3 e))).cell rfl)) rfl rfl ?_
  refine RD.take 3 rfl (by kernel_rfl) (by kernel_rfl) (by kernel_rfl) (fun w' s' => .as (.bin rfl rfl rfl) (wi64 (y := o.box - 1) (by omega) (by omega))) rfl rfl ?_
  refine RD.take 5 rfl (by kernel_rfl) (by kernel_rfl) (by kernel_rfl) (fun w' s' => .loadR ([.int .i64 o.box, .int .i64 o.kind, .int .i64 o.a, .int .i64 o.b]) sh34 rfl (hb_3.step s' (fun e => e.elim (fun e => n_2__3.symm e) (fun e => Nat.not_le.2 ltD_b_3 e))).row rfl) rfl rfl ?_
  refine RD.all [0, 7] (by kernel_rfl) rfl (RDs.cons rfl ?_ (RDs.cons rfl ?_ (RDs.nil)))
  ·
    refine RL.call rfl ok50 (c_boxes w1) rfl rfl ?_
    rintro _ w3 ⟨rfl, s4⟩
    have S := S.trans s4
    have hF := hF.sub s4
    have hb_2 := hb_2.sub s4
    have hb_3 := hb_3.sub s4
    have hb_4 := hb_4.sub s4
    have hb_5 := hb_5.sub s4
    have szD := Nat.le_trans szD s4.size
    refine RD.back s4.agr ?_
    refine RD.take 4 rfl (by kernel_rfl) (by kernel_rfl) (by kernel_rfl) (fun w' s' => .index1 ar82 sh81 rfl rfl (by omega) (boxF_at hok)) rfl rfl ?_
    refine RD.all [6, 7] (by kernel_rfl) rfl (RDs.cons rfl ?_ (RDs.cons rfl ?_ (RDs.nil)))
    ·
      refine RL.callv rfl rfl (us := []) (cs := []) (boxF_ok o.box) (c_box b_2 p m hs hR o hok w3 M hF hb_2 d_hF_b_2) rfl rfl ?_
      rintro _ w5 ⟨p', M', rfl, hs', hF', hup, hb_2', a13⟩
      have d_hF'_b_2 := upNe hup d_hF_b_2 hb_2.lt
      have d_hF'_b_3 := upNe hup d_hF_b_3 hb_3.lt
      have d_hF'_b_4 := upNe hup d_hF_b_4 hb_4.lt
      have d_hF'_b_5 := upNe hup d_hF_b_5 hb_5.lt
      have hup := hup.le S.size
      have S := S.agrN a13 (fun k e => e ▸ ge_2)
      have hF := hF.step a13 (fun k hk e => d_hF_b_2 k hk e)
      have hb_3 := hb_3.step a13 (fun e => n_2__3.symm e)
      have hb_4 := hb_4.step a13 (fun e => n_2__4.symm e)
      have hb_5 := hb_5.step a13 (fun e => n_2__5.symm e)
      have szD := Nat.le_trans szD a13.size
      have hb_2 := hb_2'
      refine RD.backW rfl (a13.mono fun k _ e => .inl e) ?_
      refine RD.all [7] (by kernel_rfl) rfl (RDs.cons rfl ?_ (RDs.nil))
      refine RL.alloc ze39 rfl rfl (fun b_6 w_6 e_6 z_6 hb_6 s_6 => ?_)
      have fr_b_6 : w_5.heap.size ≤ b_6 := by rw [e_6]; exact szD
      have ge_6 := S.le e_6
      have n_3__6 := hb_3.ne e_6
      have n_4__6 := hb_4.ne e_6
      have n_5__6 := hb_5.ne e_6
      have n_2__6 := hb_2.ne e_6
      have d_hF'_b_6 := hF'.neNew e_6
      have S := S.trans s_6
      have hb_3 := hb_3.sub s_6
      have hb_4 := hb_4.sub s_6
      have hb_5 := hb_5.sub s_6
      have szD := Nat.le_trans szD s_6.size
      have hb_2 := hb_2.sub s_6
      have hF' := hF'.sub s_6
      refine RD.back s_6.agr ?_
      refine RD.all [8] (by kernel_rfl) rfl (RDs.cons rfl ?_ (RDs.nil))
      refine RL.store sh39 rfl rfl rfl hb_6 (by exact Nat.le_of_ble_eq_true rfl) (by rfl) rfl (fun w7 z7 hb_6 a7 => ?_)
      have S := S.upd a7 ge_6
      have hb_3 := hb_3.upd a7 n_3__6
      have hb_4 := hb_4.upd a7 n_4__6
      have hb_5 := hb_5.upd a7 n_5__6
      have szD := Nat.le_trans szD a7.size
      have hb_2 := hb_2.upd a7 n_2__6
      have hF' := hF'.updD a7 d_hF'_b_6
      have hb_6 : Has w7 b_6 ([.int .i64 (doM m o).2.e, .int .i64 (doM m o).2.a, .int .i64 (doM m o).2.b]) _ := hb_6.now (by kernel_rfl)
      refine RD.backW rfl (a7.mono fun k _ e => e ▸ (.inr fr_b_6)) ?_
      refine RD.done (by kernel_rfl) (RC.back ?_)
      refine RC.seq ?_
      refine RC.drawD (fun k => k = b_4 ∨ k = b_5) [2, 3] w7.heap.size 4 rfl rfl mxo (fun w8 s9 => ?_)
      have hNN : ∀ k, ((k = b_4 ∨ k = b_5) ∨ w7.heap.size ≤ k) → w.heap.size ≤ k := fun k e => e.elim (fun e => e.elim (fun e => e ▸ ge_4) (fun e => e ▸ ge_5)) (fun e => Nat.le_trans S.size e)
      have ent_S := S.size
      have hN0 : ∀ k, w7.heap.size ≤ k → w.heap.size ≤ k := fun k e => Nat.le_trans S.size e
      have ltD_b_3 := hb_3.lt
      have ltD_b_4 := hb_4.lt
      have ltD_b_5 := hb_5.lt
      have ltD_b_2 := hb_2.lt
      have ltD_hF' := fun k hk => (hF'.ge k hk).2
      have ltD_b_6 := hb_6.lt
      have szD := Nat.le_refl w7.heap.size
      have S := S.trans s9
      have hb_3 := hb_3.sub s9
      have hb_4 := hb_4.sub s9
      have hb_5 := hb_5.sub s9
      have hb_2 := hb_2.sub s9
      have hF' := hF'.sub s9
      have hb_6 := hb_6.sub s9
      have szD := Nat.le_trans szD s9.size
      refine RD.take 0 rfl (by kernel_rfl) (by kernel_rfl) (by kernel_rfl) (fun w' s' => .loadR ([.slice p'.a1 (doM m o).1.map.length p'.c1, .slice p'.a2 (doM m o).1.tab.length p'.c2, .slice p'.a3 (doM m o).1.row.length p'.c3, .slice p'.a4 (doM m o).1.heap.length p'.c4]) sh25 rfl (hb_2.step s' (fun e => e.elim (fun e => e.elim (fun e => n_2__4 e) (fun e => n_2__5 e)) (fun e => Nat.not_le.2 ltD_b_2 e))).row rfl) rfl rfl ?_
      refine RD.take 1 rfl (by kernel_rfl) (by kernel_rfl) (by kernel_rfl) (fun w' s' => .loadR ([.int .i64 (doM m o).2.e, .int .i64 (doM m o).2.a, .int .i64 (doM m o).2.b]) sh39 rfl (hb_6.step s' (fun e => e.elim (fun e => e.elim (fun e => n_4__6.symm e) (fun e => n_5__6.symm e)) (fun e => Nat.not_le.2 ltD_b_6 e))).row rfl) rfl rfl ?_
      refine RD.all [2] (by kernel_rfl) rfl (RDs.cons rfl ?_ (RDs.nil))
      refine RL.store sh25 rfl rfl rfl hb_4 (by exact Nat.le_of_ble_eq_true rfl) (by rfl) rfl (fun w10 z10 hb_4 a10 => ?_)
      have S := S.upd a10 ge_4
      have hb_3 := hb_3.upd a10 n_3__4
      have hb_5 := hb_5.upd a10 n_4__5.symm
      have hb_2 := hb_2.upd a10 n_2__4
      have hF' := hF'.updD a10 d_hF'_b_4
      have hb_6 := hb_6.upd a10 n_4__6.symm
      have szD := Nat.le_trans szD a10.size
      have hb_4 : Has w10 b_4 ([.slice p'.a1 (doM m o).1.map.length p'.c1, .slice p'.a2 (doM m o).1.tab.length p'.c2, .slice p'.a3 (doM m o).1.row.length p'.c3, .slice p'.a4 (doM m o).1.heap.length p'.c4]) _ := hb_4.now (by kernel_rfl)
      refine RD.backW rfl (a10.mono fun k _ e => e ▸ (.inl (.inl rfl))) ?_
      refine RD.all [3] (by kernel_rfl) rfl (RDs.cons rfl ?_ (RDs.nil))
      refine RL.store sh39 rfl rfl rfl hb_5 (by exact Nat.le_of_ble_eq_true rfl) (by rfl) rfl (fun w11 z11 hb_5 a11 => ?_)
      have S := S.upd a11 ge_5
      have hb_3 := hb_3.upd a11 n_3__5
      have hb_4 := hb_4.upd a11 n_4__5
      have hb_2 := hb_2.upd a11 n_2__5
      have hF' := hF'.updD a11 d_hF'_b_5
      have hb_6 := hb_6.upd a11 n_5__6.symm
      have szD := Nat.le_trans szD a11.size
      have hb_5 : Has w11 b_5 ([.int .i64 (doM m o).2.e, .int .i64 (doM m o).2.a, .int .i64 (doM m o).2.b]) _ := hb_5.now (by kernel_rfl)
      refine RD.backW rfl (a11.mono fun k _ e => e ▸ (.inl (.inr (rfl)))) ?_
      refine RD.done (by kernel_rfl) (RC.back ?_)
      refine RC.done (rs := [.cell 4 25, .cell 5 39]) (vs := [_, _]) rfl rfl ⟨⟨_, rfl, .inr ⟨[.slice p'.a1 (doM m o).1.map.length p'.c1, .slice p'.a2 (doM m o).1.tab.length p'.c2, .slice p'.a3 (doM m o).1.row.length p'.c3, .slice p'.a4 (doM m o).1.heap.length p'.c4], sh25, hb_4.row, rfl⟩⟩, ⟨_, rfl, .inr ⟨[.int .i64 (doM m o).2.e, .int .i64 (doM m o).2.a, .int .i64 (doM m o).2.b], sh39, hb_5.row, rfl⟩⟩, trivial⟩ ?_
      -- end 1
      exact ⟨S, p', M', rfl, hs', hF', hup⟩
    ·
      refine RL.alloc ze39 rfl rfl (fun b_6 w_6 e_6 z_6 hb_6 s_6 => ?_)
      have fr_b_6 : w_5.heap.size ≤ b_6 := by rw [e_6]; exact szD
      have ge_6 := S.le e_6
      have n_2__6 := hb_2.ne e_6
      have n_3__6 := hb_3.ne e_6
      have n_4__6 := hb_4.ne e_6
      have n_5__6 := hb_5.ne e_6
      have d_hF_b_6 := hF.neNew e_6
      have S := S.trans s_6
      have hF := hF.sub s_6
      have hb_2 := hb_2.sub s_6
      have hb_3 := hb_3.sub s_6
      have hb_4 := hb_4.sub s_6
      have hb_5 := hb_5.sub s_6
      have szD := Nat.le_trans szD s_6.size
      refine RD.back s_6.agr ?_
      refine RD.all [6] (by kernel_rfl) rfl (RDs.cons rfl ?_ (RDs.nil))
      refine RL.callv rfl rfl (us := []) (cs := []) (boxF_ok o.box) (c_box b_2 p m hs hR o hok w_6 M hF hb_2 d_hF_b_2) rfl rfl ?_
      rintro _ w12 ⟨p', M', rfl, hs', hF', hup, hb_2', a13⟩
      have d_hF'_b_2 := upNe hup d_hF_b_2 hb_2.lt
      have d_hF'_b_3 := upNe hup d_hF_b_3 hb_3.lt
      have d_hF'_b_4 := upNe hup d_hF_b_4 hb_4.lt
      have d_hF'_b_5 := upNe hup d_hF_b_5 hb_5.lt
      have d_hF'_b_6 := upNe hup d_hF_b_6 hb_6.lt
      have hup := hup.le S.size
      have S := S.agrN a13 (fun k e => e ▸ ge_2)
      have hF := hF.step a13 (fun k hk e => d_hF_b_2 k hk e)
      have hb_3 := hb_3.step a13 (fun e => n_2__3.symm e)
      have hb_4 := hb_4.step a13 (fun e => n_2__4.symm e)
      have hb_5 := hb_5.step a13 (fun e => n_2__5.symm e)
      have szD := Nat.le_trans szD a13.size
      have hb_6 := hb_6.step a13 (fun e => n_2__6.symm e)
      have hb_2 := hb_2'
      refine RD.backW rfl (a13.mono fun k _ e => .inl e) ?_
      refine RD.all [8] (by kernel_rfl) rfl (RDs.cons rfl ?_ (RDs.nil))
      refine RL.store sh39 rfl rfl rfl hb_6 (by exact Nat.le_of_ble_eq_true rfl) (by rfl) rfl (fun w14 z14 hb_6 a14 => ?_)
      have S := S.upd a14 ge_6
      have hb_3 := hb_3.upd a14 n_3__6
      have hb_4 := hb_4.upd a14 n_4__6
      have hb_5 := hb_5.upd a14 n_5__6
      have szD := Nat.le_trans szD a14.size
      have hb_2 := hb_2.upd a14 n_2__6
      have hF' := hF'.updD a14 d_hF'_b_6
      have hb_6 : Has w14 b_6 ([.int .i64 (doM m o).2.e, .int .i64 (doM m o).2.a, .int .i64 (doM m o).2.b]) _ := hb_6.now (by kernel_rfl)
      refine RD.backW rfl (a14.mono fun k _ e => e ▸ (.inr fr_b_6)) ?_
      refine RD.done (by kernel_rfl) (RC.back ?_)
      refine RC.seq ?_
      refine RC.drawD (fun k => k = b_4 ∨ k = b_5) [2, 3] w14.heap.size 4 rfl rfl mxo (fun w15 s16 => ?_)
      have hNN : ∀ k, ((k = b_4 ∨ k = b_5) ∨ w14.heap.size ≤ k) → w.heap.size ≤ k := fun k e => e.elim (fun e => e.elim (fun e => e ▸ ge_4) (fun e => e ▸ ge_5)) (fun e => Nat.le_trans S.size e)
      have ent_S := S.size
      have hN0 : ∀ k, w14.heap.size ≤ k → w.heap.size ≤ k := fun k e => Nat.le_trans S.size e
      have ltD_b_3 := hb_3.lt
      have ltD_b_4 := hb_4.lt
      have ltD_b_5 := hb_5.lt
      have ltD_b_6 := hb_6.lt
      have ltD_b_2 := hb_2.lt
      have ltD_hF' := fun k hk => (hF'.ge k hk).2
      have szD := Nat.le_refl w14.heap.size
      have S := S.trans s16
      have hb_3 := hb_3.sub s16
      have hb_4 := hb_4.sub s16
      have hb_5 := hb_5.sub s16
      have hb_6 := hb_6.sub s16
      have hb_2 := hb_2.sub s16
      have hF' := hF'.sub s16
      have szD := Nat.le_trans szD s16.size
      refine RD.take 0 rfl (by kernel_rfl) (by kernel_rfl) (by kernel_rfl) (fun w' s' => .loadR ([.slice p'.a1 (doM m o).1.map.length p'.c1, .slice p'.a2 (doM m o).1.tab.length p'.c2, .slice p'.a3 (doM m o).1.row.length p'.c3, .slice p'.a4 (doM m o).1.heap.length p'.c4]) sh25 rfl (hb_2.step s' (fun e => e.elim (fun e => e.elim (fun e => n_2__4 e) (fun e => n_2__5 e)) (fun e => Nat.not_le.2 ltD_b_2 e))).row rfl) rfl rfl ?_
      refine RD.take 1 rfl (by kernel_rfl) (by kernel_rfl) (by kernel_rfl) (fun w' s' => .loadR ([.int .i64 (doM m o).2.e, .int .i64 (doM m o).2.a, .int .i64 (doM m o).2.b]) sh39 rfl (hb_6.step s' (fun e => e.elim (fun e => e.elim (fun e => n_4__6.symm e) (fun e => n_5__6.symm e)) (fun e => Nat.not_le.2 ltD_b_6 e))).row rfl) rfl rfl ?_
      refine RD.all [2] (by kernel_rfl) rfl (RDs.cons rfl ?_ (RDs.nil))
      refine RL.store sh25 rfl rfl rfl hb_4 (by exact Nat.le_of_ble_eq_true rfl) (by rfl) rfl (fun w17 z17 hb_4 a17 => ?_)
      have S := S.upd a17 ge_4
      have hb_3 := hb_3.upd a17 n_3__4
      have hb_5 := hb_5.upd a17 n_4__5.symm
      have hb_6 := hb_6.upd a17 n_4__6.symm
      have hb_2 := hb_2.upd a17 n_2__4
      have hF' := hF'.updD a17 d_hF'_b_4
      have szD := Nat.le_trans szD a17.size
      have hb_4 : Has w17 b_4 ([.slice p'.a1 (doM m o).1.map.length p'.c1, .slice p'.a2 (doM m o).1.tab.length p'.c2, .slice p'.a3 (doM m o).1.row.length p'.c3, .slice p'.a4 (doM m o).1.heap.length p'.c4]) _ := hb_4.now (by kernel_rfl)
      refine RD.backW rfl (a17.mono fun k _ e => e ▸ (.inl (.inl rfl))) ?_
      refine RD.all [3] (by kernel_rfl) rfl (RDs.cons rfl ?_ (RDs.nil))
      refine RL.store sh39 rfl rfl rfl hb_5 (by exact Nat.le_of_ble_eq_true rfl) (by rfl) rfl (fun w18 z18 hb_5 a18 => ?_)
      have S := S.upd a18 ge_5
      have hb_3 := hb_3.upd a18 n_3__5
      have hb_4 := hb_4.upd a18 n_4__5
      have hb_6 := hb_6.upd a18 n_5__6.symm
      have hb_2 := hb_2.upd a18 n_2__5
      have hF' := hF'.updD a18 d_hF'_b_5
      have szD := Nat.le_trans szD a18.size
      have hb_5 : Has w18 b_5 ([.int .i64 (doM m o).2.e, .int .i64 (doM m o).2.a, .int .i64 (doM m o).2.b]) _ := hb_5.now (by kernel_rfl)
      refine RD.backW rfl (a18.mono fun k _ e => e ▸ (.inl (.inr (rfl)))) ?_
      refine RD.done (by kernel_rfl) (RC.back ?_)
      refine RC.done (rs := [.cell 4 25, .cell 5 39]) (vs := [_, _]) rfl rfl ⟨⟨_, rfl, .inr ⟨[.slice p'.a1 (doM m o).1.map.length p'.c1, .slice p'.a2 (doM m o).1.tab.length p'.c2, .slice p'.a3 (doM m o).1.row.length p'.c3, .slice p'.a4 (doM m o).1.heap.length p'.c4], sh25, hb_4.row, rfl⟩⟩, ⟨_, rfl, .inr ⟨[.int .i64 (doM m o).2.e, .int .i64 (doM m o).2.a, .int .i64 (doM m o).2.b], sh39, hb_5.row, rfl⟩⟩, trivial⟩ ?_
      -- end 2
      exact ⟨S, p', M', rfl, hs', hF', hup⟩
  ·
    refine RL.alloc ze39 rfl rfl (fun b_6 w_6 e_6 z_6 hb_6 s_6 => ?_)
    have fr_b_6 : w_5.heap.size ≤ b_6 := by rw [e_6]; exact szD
    have ge_6 := S.le e_6
    have n_2__6 := hb_2.ne e_6
    have n_3__6 := hb_3.ne e_6
    have n_4__6 := hb_4.ne e_6
    have n_5__6 := hb_5.ne e_6
    have d_hF_b_6 := hF.neNew e_6
    have S := S.trans s_6
    have hF := hF.sub s_6
    have hb_2 := hb_2.sub s_6
    have hb_3 := hb_3.sub s_6
    have hb_4 := hb_4.sub s_6
    have hb_5 := hb_5.sub s_6
    have szD := Nat.le_trans szD s_6.size
    refine RD.back s_6.agr ?_
    refine RD.all [0] (by kernel_rfl) rfl (RDs.cons rfl ?_ (RDs.nil))
    refine RL.call rfl ok50 (c_boxes w_6) rfl rfl ?_
    rintro _ w19 ⟨rfl, s20⟩
    have S := S.trans s20
    have hF := hF.sub s20
    have hb_2 := hb_2.sub s20
    have hb_3 := hb_3.sub s20
    have hb_4 := hb_4.sub s20
    have hb_5 := hb_5.sub s20
    have szD := Nat.le_trans szD s20.size
    have hb_6 := hb_6.sub s20
    refine RD.back s20.agr ?_
    refine RD.take 4 rfl (by kernel_rfl) (by kernel_rfl) (by kernel_rfl) (fun w' s' => .index1 ar82 sh81 rfl rfl (by omega) (boxF_at hok)) rfl rfl ?_
    refine RD.all [6] (by kernel_rfl) rfl (RDs.cons rfl ?_ (RDs.nil))
    refine RL.callv rfl rfl (us := []) (cs := []) (boxF_ok o.box) (c_box b_2 p m hs hR o hok w19 M hF hb_2 d_hF_b_2) rfl rfl ?_
    rintro _ w21 ⟨p', M', rfl, hs', hF', hup, hb_2', a13⟩
    have d_hF'_b_2 := upNe hup d_hF_b_2 hb_2.lt
    have d_hF'_b_3 := upNe hup d_hF_b_3 hb_3.lt
    have d_hF'_b_4 := upNe hup d_hF_b_4 hb_4.lt
    have d_hF'_b_5 := upNe hup d_hF_b_5 hb_5.lt
    have d_hF'_b_6 := upNe hup d_hF_b_6 hb_6.lt
    have hup := hup.le S.size
    have S := S.agrN a13 (fun k e => e ▸ ge_2)
    have hF := hF.step a13 (fun k hk e => d_hF_b_2 k hk e)
    have hb_3 := hb_3.step a13 (fun e => n_2__3.symm e)
    have hb_4 := hb_4.step a13 (fun e => n_2__4.symm e)
    have hb_5 := hb_5.step a13 (fun e => n_2__5.symm e)
    have szD := Nat.le_trans szD a13.size
    have hb_6 := hb_6.step a13 (fun e => n_2__6.symm e)
    have hb_2 := hb_2'
    refine RD.backW rfl (a13.mono fun k _ e => .inl e) ?_
    refine RD.all [8] (by kernel_rfl) rfl (RDs.cons rfl ?_ (RDs.nil))
    refine RL.store sh39 rfl rfl rfl hb_6 (by exact Nat.le_of_ble_eq_true rfl) (by rfl) rfl (fun w23 z23 hb_6 a23 => ?_)
    have S := S.upd a23 ge_6
    have hb_3 := hb_3.upd a23 n_3__6
    have hb_4 := hb_4.upd a23 n_4__6
    have hb_5 := hb_5.upd a23 n_5__6
    have szD := Nat.le_trans szD a23.size
    have hb_2 := hb_2.upd a23 n_2__6
    have hF' := hF'.updD a23 d_hF'_b_6
    have hb_6 : Has w23 b_6 ([.int .i64 (doM m o).2.e, .int .i64 (doM m o).2.a, .int .i64 (doM m o).2.b]) _ := hb_6.now (by kernel_rfl)
    refine RD.backW rfl (a23.mono fun k _ e => e ▸ (.inr fr_b_6)) ?_
    refine RD.done (by kernel_rfl) (RC.back ?_)
    refine RC.seq ?_
    refine RC.drawD (fun k => k = b_4 ∨ k = b_5) [2, 3] w23.heap.size 4 rfl rfl mxo (fun w24 s25 => ?_)
    have hNN : ∀ k, ((k = b_4 ∨ k = b_5) ∨ w23.heap.size ≤ k) → w.heap.size ≤ k := fun k e => e.elim (fun e => e.elim (fun e => e ▸ ge_4) (fun e => e ▸ ge_5)) (fun e => Nat.le_trans S.size e)
    have ent_S := S.size
    have hN0 : ∀ k, w23.heap.size ≤ k → w.heap.size ≤ k := fun k e => Nat.le_trans S.size e
    have ltD_b_3 := hb_3.lt
    have ltD_b_4 := hb_4.lt
    have ltD_b_5 := hb_5.lt
    have ltD_b_6 := hb_6.lt
    have ltD_b_2 := hb_2.lt
    have ltD_hF' := fun k hk => (hF'.ge k hk).2
    have szD := Nat.le_refl w23.heap.size
    have S := S.trans s25
    have hb_3 := hb_3.sub s25
    have hb_4 := hb_4.sub s25
    have hb_5 := hb_5.sub s25
    have hb_6 := hb_6.sub s25
    have hb_2 := hb_2.sub s25
    have hF' := hF'.sub s25
    have szD := Nat.le_trans szD s25.size
    refine RD.take 0 rfl (by kernel_rfl) (by kernel_rfl) (by kernel_rfl) (fun w' s' => .loadR ([.slice p'.a1 (doM m o).1.map.length p'.c1, .slice p'.a2 (doM m o).1.tab.length p'.c2, .slice p'.a3 (doM m o).1.row.length p'.c3, .slice p'.a4 (doM m o).1.heap.length p'.c4]) sh25 rfl (hb_2.step s' (fun e => e.elim (fun e => e.elim (fun e => n_2__4 e) (fun e => n_2__5 e)) (fun e => Nat.not_le.2 ltD_b_2 e))).row rfl) rfl rfl ?_
    refine RD.take 1 rfl (by kernel_rfl) (by kernel_rfl) (by kernel_rfl) (fun w' s' => .loadR ([.int .i64 (doM m o).2.e, .int .i64 (doM m o).2.a, .int .i64 (doM m o).2.b]) sh39 rfl (hb_6.step s' (fun e => e.elim (fun e => e.elim (fun e => n_4__6.symm e) (fun e => n_5__6.symm e)) (fun e => Nat.not_le.2 ltD_b_6 e))).row rfl) rfl rfl ?_
    refine RD.all [2] (by kernel_rfl) rfl (RDs.cons rfl ?_ (RDs.nil))
    refine RL.store sh25 rfl rfl rfl hb_4 (by exact Nat.le_of_ble_eq_true rfl) (by rfl) rfl (fun w26 z26 hb_4 a26 => ?_)
    have S := S.upd a26 ge_4
    have hb_3 := hb_3.upd a26 n_3__4
    have hb_5 := hb_5.upd a26 n_4__5.symm
    have hb_6 := hb_6.upd a26 n_4__6.symm
    have hb_2 := hb_2.upd a26 n_2__4
    have hF' := hF'.updD a26 d_hF'_b_4
    have szD := Nat.le_trans szD a26.size
    have hb_4 : Has w26 b_4 ([.slice p'.a1 (doM m o).1.map.length p'.c1, .slice p'.a2 (doM m o).1.tab.length p'.c2, .slice p'.a3 (doM m o).1.row.length p'.c3, .slice p'.a4 (doM m o).1.heap.length p'.c4]) _ := hb_4.now (by kernel_rfl)
    refine RD.backW rfl (a26.mono fun k _ e => e ▸ (.inl (.inl rfl))) ?_
    refine RD.all [3] (by kernel_rfl) rfl (RDs.cons rfl ?_ (RDs.nil))
    refine RL.store sh39 rfl rfl rfl hb_5 (by exact Nat.le_of_ble_eq_true rfl) (by rfl) rfl (fun w27 z27 hb_5 a27 => ?_)
    have S := S.upd a27 ge_5
    have hb_3 := hb_3.upd a27 n_3__5
    have hb_4 := hb_4.upd a27 n_4__5
    have hb_6 := hb_6.upd a27 n_5__6.symm
    have hb_2 := hb_2.upd a27 n_2__5
    have hF' := hF'.updD a27 d_hF'_b_5
    have szD := Nat.le_trans szD a27.size
    have hb_5 : Has w27 b_5 ([.int .i64 (doM m o).2.e, .int .i64 (doM m o).2.a, .int .i64 (doM m o).2.b]) _ := hb_5.now (by kernel_rfl)
    refine RD.backW rfl (a27.mono fun k _ e => e ▸ (.inl (.inr (rfl)))) ?_
    refine RD.done (by kernel_rfl) (RC.back ?_)
    refine RC.done (rs := [.cell 4 25, .cell 5 39]) (vs := [_, _]) rfl rfl ⟨⟨_, rfl, .inr ⟨[.slice p'.a1 (doM m o).1.map.length p'.c1, .slice p'.a2 (doM m o).1.tab.length p'.c2, .slice p'.a3 (doM m o).1.row.length p'.c3, .slice p'.a4 (doM m o).1.heap.length p'.c4], sh25, hb_4.row, rfl⟩⟩, ⟨_, rfl, .inr ⟨[.int .i64 (doM m o).2.e, .int .i64 (doM m o).2.a, .int .i64 (doM m o).2.b], sh39, hb_5.row, rfl⟩⟩, trivial⟩ ?_
    -- end 3
    exact ⟨S, p', M', rfl, hs', hF', hup⟩
end Go.Proofs.Ytjafbffehmombaa
set_option linter.unusedVariables false
set_option linter.unusedSimpArgs false
namespace Go.Proofs.Ytjafbffehmombaa
open Go Go.XL
theorem ints_ext {l m : List Int} {i : Nat} {x y : Int} (hx : l[i]? = some x) (hy : m[i]? = some y) (h : l.take i = m.take i) (e : x = y) : l.take (i + 1) = m.take (i + 1) := by
  rw [List.take_add_one, List.take_add_one, hx, hy, h, e]
theorem eqL_it_iff (x y : It) : eqL x.cells y.cells = decide (x = y) := by
  obtain ⟨a, b⟩ := x
  obtain ⟨c, d⟩ := y
  simp [eqL, eq1, It.cells]
  rfl
theorem take_ext {l m : List It} {i : Nat} {x y : It} (hx : l[i]? = some x) (hy : m[i]? = some y) (h : l.take i = m.take i) (e : x = y) : l.take (i + 1) = m.take (i + 1) := by
  rw [List.take_add_one, List.take_add_one, hx, hy, h, e]
theorem c_same (l m : List It) (a b : Option Addr) (c d n k : Nat) (hn : n = l.length) (hk : k = m.length) (w : World) (hl : Sl w a 2 (l.map It.cells)) (hm : Sl w b 2 (m.map It.cells)) (hb : l.length ≤ 1000000) :
    FC Try.prog 33 [.slice a n c, .slice b k d] w (Val (.bool (decide (l = m))) w) := by
  subst hn hk
  refine FC.intro Try.func33 rfl Try.ntmps33 rfl ?_
  have S := Sub.refl w
  refine RC.seq ?_
  refine RC.region rfl ?_
  refine RL.ev (.assign rfl) rfl rfl ?_
  refine RL.nil (RC.back ?_)
  refine RC.seq ?_
  refine RC.seq ?_
  refine RC.region rfl ?_
  refine RL.ev (.move rfl) rfl rfl ?_
  refine RL.ev (.len sl22 rfl) rfl rfl ?_
  refine RL.ev (.move rfl) rfl rfl ?_
  refine RL.ev (.len sl22 rfl) rfl rfl ?_
  refine RL.ev (.bin rfl rfl rfl) rfl rfl ?_
  refine RL.nil (RC.back ?_)
  refine RC.cond_dec rfl (fun h1 => ?_) (fun h1 => ?_)
  ·
    have hne : ¬ l = m := (fun e => by subst e; exact absurd rfl h1)
    refine RC.seq ?_
    refine RC.region rfl ?_
    refine RL.ev (.assign rfl) rfl rfl ?_
    refine RL.nil (RC.back ?_)
    refine RC.done (rs := [.tmp 4]) (vs := [_]) rfl rfl ⟨rfl, trivial⟩ ?_
    -- end 1
    rw [decide_eq_false hne]
    exact ⟨rfl, S⟩
  ·
    have hlen : l.length = m.length := (by have := h1; omega)
    refine RC.skip (RC.back ?_)
    refine RC.seq ?_
    refine RC.seq ?_
    refine RC.region rfl ?_
    refine RL.ev (.move rfl) rfl rfl ?_
    refine RL.ev (.len sl22 rfl) rfl rfl ?_
    refine RL.ev (.move rfl) rfl rfl ?_
    refine RL.nil (RC.back ?_)
    refine RC.block ?_
    refine RC.loop (α := Nat) (fun i => [(0, .slice a l.length c), (1, .slice b m.length d), (12, .int .i64 (l.length : Int)), (13, .int .i64 (i : Int))]) (fun i w2 => (i ≤ l.length ∧ l.take i = m.take i) ∧ Sub w w2) (fun i => l.length - i) 0 (keep_of (by repeat (first | exact trivial | refine And.intro rfl ?_))) (⟨⟨Nat.zero_le _, by simp⟩, S⟩) (fun i w2 hJ => ?_)
    obtain ⟨⟨hi, hp⟩, S⟩ := hJ
    refine RC.seq ?_
    refine RC.region rfl ?_
    refine RL.ev (.bin rfl rfl rfl) rfl rfl ?_
    refine RL.nil (RC.back ?_)
    refine RC.seq ?_
    refine RC.cond_dec rfl (fun h3 => ?_) (fun h3 => ?_)
    ·
      obtain ⟨x, hx⟩ := getSome (l := l) (i := i) (by omega)
      obtain ⟨y, hy⟩ := getSome (l := m) (i := i) (by omega)
      refine RC.skip (RC.back ?_)
      refine RC.seq ?_
      refine RC.block ?_
      refine RC.seq ?_
      refine RC.region rfl ?_
      refine RL.ev (.move rfl) rfl rfl ?_
      refine RL.ev (.assign rfl) rfl rfl ?_
      refine RL.nil (RC.back ?_)
      refine RC.seq ?_
      refine RC.draw rfl mxo (by kernel_rfl) ?_
      refine RQ.ev (.move rfl) rfl rfl ?_
      refine RQ.ev (.move rfl) rfl rfl ?_
      refine RQ.ev (.indexS sl22 rfl rfl (by omega) (hl.is (i := 0) (by simp only [List.length_map, List.length_cons, List.length_nil]; omega))) rfl rfl ?_
      refine RQ.ev (.loadR (x.cells) sh45 rfl ((hl.sub S).rowAt (enc := It.cells) (i := i) hx) rfl) rfl rfl ?_
      refine RQ.ev (.move rfl) rfl rfl ?_
      refine RQ.ev (.move rfl) rfl rfl ?_
      refine RQ.ev (.indexS sl22 rfl rfl (by omega) (hm.is (i := 0) (by simp only [List.length_map, List.length_cons, List.length_nil]; omega))) rfl rfl ?_
      refine RQ.ev (.loadR (y.cells) sh45 rfl ((hm.sub S).rowAt (enc := It.cells) (i := i) hy) rfl) rfl rfl ?_
      refine RQ.ev (.neS (xs := x.cells) (ys := y.cells) fk45 eg45 sh45 rfl rfl rfl rfl rfl) rfl rfl ?_
      refine RQ.nil (fun w4 s5 => RC.back ?_)
      have S := S.trans s5
      refine RC.cond rfl (fun h6 => ?_) (fun h6 => ?_)
      ·
        have hxy : ¬ x = y := (fun e => by have h2 := h6; rw [eqL_it_iff, decide_eq_true e] at h2; cases h2)
        have hne : ¬ l = m := (fun e => by subst e; rw [hx] at hy; cases hy; exact hxy rfl)
        refine RC.seq ?_
        refine RC.region rfl ?_
        refine RL.ev (.assign rfl) rfl rfl ?_
        refine RL.nil (RC.back ?_)
        refine RC.done (rs := [.tmp 4]) (vs := [_]) rfl rfl ⟨rfl, trivial⟩ ?_
        -- end 2
        rw [decide_eq_false hne]
        exact ⟨rfl, S⟩
      ·
        have hxy : x = y := (by have h2 := h6; rw [eqL_it_iff] at h2; simpa using h2)
        refine RC.skip (RC.back ?_)
        refine RC.region rfl ?_
        refine RL.ev (.as (.bin rfl rfl rfl) (wi64 (y := ((i + 1 : Nat) : Int)) (by omega) (by omega))) rfl rfl ?_
        refine RL.ev (.move rfl) rfl rfl ?_
        exact RL.nil (fun a ka => ⟨i + 1, ⟨⟨by omega, take_ext hx hy hp hxy⟩, S⟩, by omega, ka.keep (keep_of (by repeat (first | exact trivial | refine And.intro rfl ?_)))⟩)
    ·
      obtain rfl : i = l.length := (by omega)
      rw [List.take_length, hlen, List.take_length] at hp
      refine RC.exit rfl (RC.back ?_)
      refine RC.seq ?_
      refine RC.region rfl ?_
      refine RL.ev (.assign rfl) rfl rfl ?_
      refine RL.nil (RC.back ?_)
      refine RC.done (rs := [.tmp 4]) (vs := [_]) rfl rfl ⟨rfl, trivial⟩ ?_
      -- end 3
      rw [decide_eq_true hp]
      exact ⟨rfl, S⟩
theorem c_same11 (l m : List Int) (a b : Option Addr) (c d n k : Nat) (hn : n = l.length) (hk : k = m.length) (w : World) (hl : Sl w a 1 (l.map fun x => [i6 x])) (hm : Sl w b 1 (m.map fun x => [i6 x])) (hb : l.length ≤ 1000000) :
    FC Try.prog 34 [.slice a n c, .slice b k d] w (Val (.bool (decide (l = m))) w) := by
  subst hn hk
  refine FC.intro Try.func34 rfl Try.ntmps34 rfl ?_
  have S := Sub.refl w
  refine RC.seq ?_
  refine RC.region rfl ?_
  refine RL.ev (.assign rfl) rfl rfl ?_
  refine RL.nil (RC.back ?_)
  refine RC.seq ?_
  refine RC.seq ?_
  refine RC.region rfl ?_
  refine RL.ev (.move rfl) rfl rfl ?_
  refine RL.ev (.len sl23 rfl) rfl rfl ?_
  refine RL.ev (.move rfl) rfl rfl ?_
  refine RL.ev (.len sl23 rfl) rfl rfl ?_
  refine RL.ev (.bin rfl rfl rfl) rfl rfl ?_
  refine RL.nil (RC.back ?_)
  refine RC.cond_dec rfl (fun h1 => ?_) (fun h1 => ?_)
  ·
    have hne : ¬ l = m := (fun e => by subst e; exact absurd rfl h1)
    refine RC.seq ?_
    refine RC.region rfl ?_
    refine RL.ev (.assign rfl) rfl rfl ?_
    refine RL.nil (RC.back ?_)
    refine RC.done (rs := [.tmp 4]) (vs := [_]) rfl rfl ⟨rfl, trivial⟩ ?_
    -- end 1
    rw [decide_eq_false hne]
    exact ⟨rfl, S⟩
  ·
    have hlen : l.length = m.length := (by have := h1; omega)
    refine RC.skip (RC.back ?_)
    refine RC.seq ?_
    refine RC.seq ?_
    refine RC.region rfl ?_
    refine RL.ev (.move rfl) rfl rfl ?_
    refine RL.ev (.len sl23 rfl) rfl rfl ?_
    refine RL.ev (.move rfl) rfl rfl ?_
    refine RL.nil (RC.back ?_)
    refine RC.block ?_
    refine RC.loop (α := Nat) (fun i => [(0, .slice a l.length c), (1, .slice b m.length d), (12, .int .i64 (l.length : Int)), (13, .int .i64 (i : Int))]) (fun i w2 => (i ≤ l.length ∧ l.take i = m.take i) ∧ Sub w w2) (fun i => l.length - i) 0 (keep_of (by repeat (first | exact trivial | refine And.intro rfl ?_))) (⟨⟨Nat.zero_le _, by simp⟩, S⟩) (fun i w2 hJ => ?_)
    obtain ⟨⟨hi, hp⟩, S⟩ := hJ
    refine RC.seq ?_
    refine RC.region rfl ?_
    refine RL.ev (.bin rfl rfl rfl) rfl rfl ?_
    refine RL.nil (RC.back ?_)
    refine RC.seq ?_
    refine RC.cond_dec rfl (fun h3 => ?_) (fun h3 => ?_)
    ·
      obtain ⟨x, hx⟩ := getSome (l := l) (i := i) (by omega)
      obtain ⟨y, hy⟩ := getSome (l := m) (i := i) (by omega)
      refine RC.skip (RC.back ?_)
      refine RC.seq ?_
      refine RC.block ?_
      refine RC.seq ?_
      refine RC.region rfl ?_
      refine RL.ev (.move rfl) rfl rfl ?_
      refine RL.ev (.assign rfl) rfl rfl ?_
      refine RL.nil (RC.back ?_)
      refine RC.seq ?_
      refine RC.draw rfl mxo (by kernel_rfl) ?_
      refine RQ.ev (.move rfl) rfl rfl ?_
      refine RQ.ev (.move rfl) rfl rfl ?_
      refine RQ.ev (.indexS sl23 rfl rfl (by omega) (hl.is (i := 0) (by simp only [List.length_map, List.length_cons, List.length_nil]; omega))) rfl rfl ?_
      refine RQ.ev (.load1 sh2 rfl ((hl.sub S).one (enc := i6) (i := i) hx)) rfl rfl ?_
      refine RQ.ev (.move rfl) rfl rfl ?_
      refine RQ.ev (.move rfl) rfl rfl ?_
      refine RQ.ev (.indexS sl23 rfl rfl (by omega) (hm.is (i := 0) (by simp only [List.length_map, List.length_cons, List.length_nil]; omega))) rfl rfl ?_
      refine RQ.ev (.load1 sh2 rfl ((hm.sub S).one (enc := i6) (i := i) hy)) rfl rfl ?_
      refine RQ.ev (.bin rfl rfl rfl) rfl rfl ?_
      refine RQ.nil (fun w4 s5 => RC.back ?_)
      have S := S.trans s5
      refine RC.cond_dec rfl (fun h6 => ?_) (fun h6 => ?_)
      ·
        have hxy : ¬ x = y := h6
        have hne : ¬ l = m := (fun e => by subst e; rw [hx] at hy; cases hy; exact hxy rfl)
        refine RC.seq ?_
        refine RC.region rfl ?_
        refine RL.ev (.assign rfl) rfl rfl ?_
        refine RL.nil (RC.back ?_)
        refine RC.done (rs := [.tmp 4]) (vs := [_]) rfl rfl ⟨rfl, trivial⟩ ?_
        -- end 2
        rw [decide_eq_false hne]
        exact ⟨rfl, S⟩
      ·
        have hxy : x = y := Decidable.not_not.1 h6
        refine RC.skip (RC.back ?_)
        refine RC.region rfl ?_
        refine RL.ev (.as (.bin rfl rfl rfl) (wi64 (y := ((i + 1 : Nat) : Int)) (by omega) (by omega))) rfl rfl ?_
        refine RL.ev (.move rfl) rfl rfl ?_
        exact RL.nil (fun a ka => ⟨i + 1, ⟨⟨by omega, ints_ext hx hy hp hxy⟩, S⟩, by omega, ka.keep (keep_of (by repeat (first | exact trivial | refine And.intro rfl ?_)))⟩)
    ·
      obtain rfl : i = l.length := (by omega)
      rw [List.take_length, hlen, List.take_length] at hp
      refine RC.exit rfl (RC.back ?_)
      refine RC.seq ?_
      refine RC.region rfl ?_
      refine RL.ev (.assign rfl) rfl rfl ?_
      refine RL.nil (RC.back ?_)
      refine RC.done (rs := [.tmp 4]) (vs := [_]) rfl rfl ⟨rfl, trivial⟩ ?_
      -- end 3
      rw [decide_eq_true hp]
      exact ⟨rfl, S⟩
end Go.Proofs.Ytjafbffehmombaa
set_option linter.unusedVariables false
set_option linter.unusedSimpArgs false
namespace Go.Proofs.Ytjafbffehmombaa
open Go Go.XL
theorem _root_.Go.XL.Has.is {w : World} {b : Nat} {cs : List Value} {e : TypeId} (h : Has w b cs e) (cs' : List Value) (hc : cs = cs') : Has w b cs' e := hc ▸ h
def p0 : Ph := ⟨none, 0, none, 0, none, 0, none, 0⟩
def m0 : Mo := ⟨[], [], [], []⟩
def res0 : ResT := ⟨0, 0, 0⟩
theorem m0_S : MoS p0 m0 := ⟨Nat.le_refl _, Nat.le_refl _, Nat.le_refl _, Nat.le_refl _, Nat.zero_le _, Nat.zero_le _, Nat.zero_le _, Nat.zero_le _⟩
theorem m0_F (M : Nat → Prop) {w : World} (h : ∀ k, M k → k < w.heap.size) : Ft M (fun u => MoR u p0 m0) w := ⟨h, fun u _ => ⟨Sl.nil _ _ _, Sl.nil _ _ _, Sl.nil _ _ _, Sl.nil _ _ _⟩⟩
/-- an answer: what the containers hold then, what is told, and whether it was refused -/
def AnsDo (M : Nat → Prop) (w w' : World) (m : Mo) (o : OpT) (u : Value) : Prop :=
  Sub w w' ∧ ∃ p' M', u = .tuple #[moV p' (if pB (rightM m ∧ okP o) then (doM m o).1 else m0), .agg (if pB (rightM m ∧ okP o) then (doM m o).2 else res0).cells.toArray, .int .i64 (if pB (rightM m ∧ okP o) then 0 else 1)] ∧ MoS p' (if pB (rightM m ∧ okP o) then (doM m o).1 else m0) ∧ Ft M' (fun u => MoR u p' (if pB (rightM m ∧ okP o) then (doM m o).1 else m0)) w' ∧ Up M w M'
theorem c_refMSame (p : Ph) (m : Mo) (hs : MoS p m) (q : Ph) (n : Mo) (ht : MoS q n) (w : World) (hm : MoR w p m) (hn : MoR w q n) :
    FC Try.prog 17 [moV p m, moV q n] w (Val (.bool (decide (m.map = n.map ∧ m.tab = n.tab ∧ m.row = n.row ∧ m.heap = n.heap))) w) := by
  have l1 := hs.l1
  have l2 := hs.l2
  have l3 := hs.l3
  have l4 := hs.l4
  refine FC.intro Try.func17 rfl Try.ntmps17 rfl ?_
  have S := Sub.refl w
  refine RC.seq ?_
  refine RC.region rfl ?_
  refine RL.box rfl rfl rfl (fun b_2 w_2 e_2 z_2 hb_2 s_2 => ?_)
  have ge_2 := S.le e_2
  have S := S.trans s_2
  have hb_2 : Has w_2 b_2 ([.slice p.a1 m.map.length p.c1, .slice p.a2 m.tab.length p.c2, .slice p.a3 m.row.length p.c3, .slice p.a4 m.heap.length p.c4]) _ := hb_2
  refine RL.box rfl rfl rfl (fun b_3 w_3 e_3 z_3 hb_3 s_3 => ?_)
  have ge_3 := S.le e_3
  have n_2__3 := hb_2.ne e_3
  have S := S.trans s_3
  have hb_2 := hb_2.sub s_3
  have hb_3 : Has w_3 b_3 ([.slice q.a1 n.map.length q.c1, .slice q.a2 n.tab.length q.c2, .slice q.a3 n.row.length q.c3, .slice q.a4 n.heap.length q.c4]) _ := hb_3
  refine RL.ev (.assign rfl) rfl rfl ?_
  refine RL.nil (RC.back ?_)
  refine RC.seq ?_
  refine RC.region rfl ?_
  refine RL.ev (.field0 fo25_0 rfl) rfl rfl ?_
  refine RL.ev (.load1 sh22 rfl (hb_2.cell rfl)) rfl rfl ?_
  refine RL.ev (.field0 fo25_0 rfl) rfl rfl ?_
  refine RL.ev (.load1 sh22 rfl (hb_3.cell rfl)) rfl rfl ?_
  refine RL.call rfl ok33 (c_same m.map n.map p.a1 q.a1 p.c1 q.c1 _ _ rfl rfl w_3 (hm.sub S).h1 (hn.sub S).h1 (by omega)) rfl rfl ?_
  rintro _ w1 ⟨rfl, s2⟩
  have S := S.trans s2
  have hb_2 := hb_2.sub s2
  have hb_3 := hb_3.sub s2
  refine RL.ev (.move rfl) rfl rfl ?_
  refine RL.split 10 rfl (fun h3 => ?_) (fun h3 => ?_)
  ·
    have g10 : m.map = n.map := h3
    refine RL.ev (.field0 fo25_1 rfl) rfl rfl ?_
    refine RL.ev (.load1 sh22 rfl (hb_2.cell rfl)) rfl rfl ?_
    refine RL.ev (.field0 fo25_1 rfl) rfl rfl ?_
    refine RL.ev (.load1 sh22 rfl (hb_3.cell rfl)) rfl rfl ?_
    refine RL.call rfl ok33 (c_same m.tab n.tab p.a2 q.a2 p.c2 q.c2 _ _ rfl rfl w1 (hm.sub S).h2 (hn.sub S).h2 (by omega)) rfl rfl ?_
    rintro _ w4 ⟨rfl, s5⟩
    have S := S.trans s5
    have hb_2 := hb_2.sub s5
    have hb_3 := hb_3.sub s5
    refine RL.ev (.pick_t rfl rfl) rfl rfl ?_
    refine RL.ev (.move rfl) rfl rfl ?_
    refine RL.split 17 rfl (fun h6 => ?_) (fun h6 => ?_)
    ·
      have g17 : m.tab = n.tab := h6
      refine RL.ev (.field0 fo25_2 rfl) rfl rfl ?_
      refine RL.ev (.load1 sh23 rfl (hb_2.cell rfl)) rfl rfl ?_
      refine RL.ev (.field0 fo25_2 rfl) rfl rfl ?_
      refine RL.ev (.load1 sh23 rfl (hb_3.cell rfl)) rfl rfl ?_
      refine RL.call rfl ok34 (c_same11 m.row n.row p.a3 q.a3 p.c3 q.c3 _ _ rfl rfl w4 (hm.sub S).h3 (hn.sub S).h3 (by omega)) rfl rfl ?_
      rintro _ w7 ⟨rfl, s8⟩
      have S := S.trans s8
      have hb_2 := hb_2.sub s8
      have hb_3 := hb_3.sub s8
      refine RL.ev (.pick_t rfl rfl) rfl rfl ?_
      refine RL.ev (.move rfl) rfl rfl ?_
      refine RL.split 24 rfl (fun h9 => ?_) (fun h9 => ?_)
      ·
        have g24 : m.row = n.row := h9
        refine RL.ev (.field0 fo25_3 rfl) rfl rfl ?_
        refine RL.ev (.load1 sh22 rfl (hb_2.cell rfl)) rfl rfl ?_
        refine RL.ev (.field0 fo25_3 rfl) rfl rfl ?_
        refine RL.ev (.load1 sh22 rfl (hb_3.cell rfl)) rfl rfl ?_
        refine RL.call rfl ok33 (c_same m.heap n.heap p.a4 q.a4 p.c4 q.c4 _ _ rfl rfl w7 (hm.sub S).h4 (hn.sub S).h4 (by omega)) rfl rfl ?_
        rintro _ w10 ⟨rfl, s11⟩
        have S := S.trans s11
        have hb_2 := hb_2.sub s11
        have hb_3 := hb_3.sub s11
        refine RL.ev (.pick_t rfl rfl) rfl rfl ?_
        refine RL.ev (.assign rfl) rfl rfl ?_
        refine RL.nil (RC.back ?_)
        refine RC.done (rs := [.tmp 4]) (vs := [_]) rfl rfl ⟨rfl, trivial⟩ ?_
        -- end 1
        refine ⟨congrArg Value.bool ?_, S⟩
        first | exact (decide_eq_false (fun e => g10 e.1)).symm | exact (decide_eq_false (fun e => g17 e.2.1)).symm | exact (decide_eq_false (fun e => g24 e.2.2.1)).symm | exact decide_eq_decide.2 ⟨fun h => ⟨g10, g17, g24, h⟩, fun h => h.2.2.2⟩
      ·
        have g24 : ¬ m.row = n.row := h9
        refine RL.off rfl rfl ?_
        refine RL.off rfl rfl ?_
        refine RL.off rfl rfl ?_
        refine RL.off rfl rfl ?_
        refine RL.off rfl rfl ?_
        refine RL.ev (.pick_f rfl rfl) rfl rfl ?_
        refine RL.ev (.assign rfl) rfl rfl ?_
        refine RL.nil (RC.back ?_)
        refine RC.done (rs := [.tmp 4]) (vs := [_]) rfl rfl ⟨rfl, trivial⟩ ?_
        -- end 2
        refine ⟨congrArg Value.bool ?_, S⟩
        first | exact (decide_eq_false (fun e => g10 e.1)).symm | exact (decide_eq_false (fun e => g17 e.2.1)).symm | exact (decide_eq_false (fun e => g24 e.2.2.1)).symm | exact decide_eq_decide.2 ⟨fun h => ⟨g10, g17, g24, h⟩, fun h => h.2.2.2⟩
    ·
      have g17 : ¬ m.tab = n.tab := h6
      refine RL.off rfl rfl ?_
      refine RL.off rfl rfl ?_
      refine RL.off rfl rfl ?_
      refine RL.off rfl rfl ?_
      refine RL.off rfl rfl ?_
      refine RL.ev (.pick_f rfl rfl) rfl rfl ?_
      refine RL.ev (.move rfl) rfl rfl ?_
      refine RL.off rfl rfl ?_
      refine RL.off rfl rfl ?_
      refine RL.off rfl rfl ?_
      refine RL.off rfl rfl ?_
      refine RL.off rfl rfl ?_
      refine RL.ev (.pick_f rfl rfl) rfl rfl ?_
      refine RL.ev (.assign rfl) rfl rfl ?_
      refine RL.nil (RC.back ?_)
      refine RC.done (rs := [.tmp 4]) (vs := [_]) rfl rfl ⟨rfl, trivial⟩ ?_
      -- end 3
      refine ⟨congrArg Value.bool ?_, S⟩
      first | exact (decide_eq_false (fun e => g10 e.1)).symm | exact (decide_eq_false (fun e => g17 e.2.1)).symm | exact (decide_eq_false (fun e => g24 e.2.2.1)).symm | exact decide_eq_decide.2 ⟨fun h => ⟨g10, g17, g24, h⟩, fun h => h.2.2.2⟩
  ·
    have g10 : ¬ m.map = n.map := h3
    refine RL.off rfl rfl ?_
    refine RL.off rfl rfl ?_
    refine RL.off rfl rfl ?_
    refine RL.off rfl rfl ?_
    refine RL.off rfl rfl ?_
    refine RL.ev (.pick_f rfl rfl) rfl rfl ?_
    refine RL.ev (.move rfl) rfl rfl ?_
    refine RL.off rfl rfl ?_
    refine RL.off rfl rfl ?_
    refine RL.off rfl rfl ?_
    refine RL.off rfl rfl ?_
    refine RL.off rfl rfl ?_
    refine RL.ev (.pick_f rfl rfl) rfl rfl ?_
    refine RL.ev (.move rfl) rfl rfl ?_
    refine RL.off rfl rfl ?_
    refine RL.off rfl rfl ?_
    refine RL.off rfl rfl ?_
    refine RL.off rfl rfl ?_
    refine RL.off rfl rfl ?_
    refine RL.ev (.pick_f rfl rfl) rfl rfl ?_
    refine RL.ev (.assign rfl) rfl rfl ?_
    refine RL.nil (RC.back ?_)
    refine RC.done (rs := [.tmp 4]) (vs := [_]) rfl rfl ⟨rfl, trivial⟩ ?_
    -- end 4
    refine ⟨congrArg Value.bool ?_, S⟩
    first | exact (decide_eq_false (fun e => g10 e.1)).symm | exact (decide_eq_false (fun e => g17 e.2.1)).symm | exact (decide_eq_false (fun e => g24 e.2.2.1)).symm | exact decide_eq_decide.2 ⟨fun h => ⟨g10, g17, g24, h⟩, fun h => h.2.2.2⟩
end Go.Proofs.Ytjafbffehmombaa
set_option linter.unusedVariables false
set_option linter.unusedSimpArgs false
namespace Go.Proofs.Ytjafbffehmombaa
open Go Go.XL
def runM (m : Mo) : List OpT → Mo × List ResT
  | [] => (m, [])
  | o :: os => ((runM (doM m o).1 os).1, (doM m o).2 :: (runM (doM m o).1 os).2)
theorem runM_app (l r : List OpT) : ∀ m : Mo, runM m (l ++ r) = ((runM (runM m l).1 r).1, (runM m l).2 ++ (runM (runM m l).1 r).2) := by
  induction l with
  | nil => intro m; rfl
  | cons o l ih => intro m; simp only [List.cons_append, runM, ih]
theorem runM_step {m : Mo} {ops : List OpT} {i : Nat} {o : OpT} (h : ops[i]? = some o) : runM m (ops.take (i + 1)) = ((doM (runM m (ops.take i)).1 o).1, (runM m (ops.take i)).2 ++ [(doM (runM m (ops.take i)).1 o).2]) := by
  rw [List.take_add_one, h, runM_app]; rfl
theorem runM_len (m : Mo) (ops : List OpT) : (runM m ops).2.length = ops.length := by
  induction ops generalizing m with
  | nil => rfl
  | cons o l ih => simp only [runM, List.length_cons, ih]
def runOk (m : Mo) (ops : List OpT) : Prop := rightM m ∧ ∀ o ∈ ops, okP o
theorem rightM_run {ops : List OpT} : ∀ {m : Mo}, runOk m ops → rightM (runM m ops).1 := by
  induction ops with
  | nil => exact fun h => h.1
  | cons o l ih => exact fun h => ih ⟨rightM_do h.1 (h.2 o (by simp)), fun x hx => h.2 x (by simp [hx])⟩
theorem runOk.take {m : Mo} {ops : List OpT} (h : runOk m ops) (i : Nat) : runOk m (ops.take i) := ⟨h.1, fun x hx => h.2 x (List.mem_of_mem_take hx)⟩
theorem c_run1 (o : OpT) (w : World) : FC Try.prog 24 [.agg o.cells.toArray] w (Val (.bool (!decide (okP o))) w) := by
  refine FC.intro Try.func24 rfl Try.ntmps24 rfl ?_
  have S := Sub.refl w
  refine RC.seq ?_
  refine RC.region rfl ?_
  refine RL.box rfl rfl rfl (fun b_1 w_1 e_1 z_1 hb_1 s_1 => ?_)
  have ge_1 := S.le e_1
  have S := S.trans s_1
  have hb_1 : Has w_1 b_1 ([.int .i64 o.box, .int .i64 o.kind, .int .i64 o.a, .int .i64 o.b]) _ := hb_1
  refine RL.ev (.assign rfl) rfl rfl ?_
  refine RL.nil (RC.back ?_)
  refine RC.seq ?_
  refine RC.region rfl ?_
  refine RL.ev (.loadR ([.int .i64 o.box, .int .i64 o.kind, .int .i64 o.a, .int .i64 o.b]) sh34 rfl hb_1.row rfl) rfl rfl ?_
  refine RL.call rfl ok25 (c_opRight o w_1) rfl rfl ?_
  rintro _ w1 ⟨rfl, s2⟩
  have S := S.trans s2
  have hb_1 := hb_1.sub s2
  refine RL.ev (.not rfl) rfl rfl ?_
  refine RL.ev (.assign rfl) rfl rfl ?_
  refine RL.nil (RC.back ?_)
  refine RC.done (rs := [.tmp 2]) (vs := [_]) rfl rfl ⟨rfl, trivial⟩ ?_
  -- end 1
  exact ⟨rfl, S⟩
structure RunI (b2 b4 : Nat) (w W : World) (M : Nat → Prop) (cur : Mo × List ResT) (p' : Ph) (M' : Nat → Prop) (a7 : Option Addr) (c7 : Nat) : Prop where
  hb : Has W b2 [.slice p'.a1 cur.1.map.length p'.c1, .slice p'.a2 cur.1.tab.length p'.c2, .slice p'.a3 cur.1.row.length p'.c3, .slice p'.a4 cur.1.heap.length p'.c4] 25
  hb4 : Has W b4 [.slice none 0 0, .slice none 0 0, .slice none 0 0, .slice none 0 0] 25
  hF : Ft M' (fun u => MoR u p' cur.1) W
  hs : MoS p' cur.1
  o7 : Ows w.heap.size W 39 3 (.slice a7 (cur.2.map ResT.cells).length c7) (cur.2.map ResT.cells)
  d1 : ∀ k, M' k → k ≠ b2
  d2 : ∀ k, M' k → k ≠ b4
  d3 : ∀ k, ob (.slice a7 (cur.2.map ResT.cells).length c7) = some k → k ≠ b2
  d4 : ∀ k, ob (.slice a7 (cur.2.map ResT.cells).length c7) = some k → k ≠ b4
  d5 : ∀ k, ob (.slice a7 (cur.2.map ResT.cells).length c7) = some k → M' k → False
  up : Up M w M'
  S : Sub w W
/-- an answer of Run -/
def AnsRun (M : Nat → Prop) (w w' : World) (m : Mo) (ops : List OpT) (u : Value) : Prop :=
  Sub w w' ∧ ((runOk m ops ∧ ∃ p' M' a' c', u = .tuple #[moV p' (runM m ops).1, .slice a' ((runM m ops).2.map ResT.cells).length c', .int .i64 0] ∧ MoS p' (runM m ops).1 ∧ Ft M' (fun u => MoR u p' (runM m ops).1) w' ∧ Up M w M' ∧ Ows w.heap.size w' 39 3 (.slice a' ((runM m ops).2.map ResT.cells).length c') ((runM m ops).2.map ResT.cells) ∧ (∀ k, ob (.slice a' ((runM m ops).2.map ResT.cells).length c') = some k → M' k → False)) ∨ (¬ runOk m ops ∧ u = .tuple #[moV p0 m0, .slice none 0 0, .int .i64 1]))
set_option maxHeartbeats 1000000 in
theorem c_Run (p : Ph) (m : Mo) (hs : MoS p m) (ops : List OpT) (pa : Option Addr) (pc n : Nat) (hn : n = ops.length) (hl60 : ops.length ≤ 4000) (w : World) (M : Nat → Prop) (hF : Ft M (fun u => MoR u p m) w) (ho : Sl w pa 4 (ops.map OpT.cells)) :
    FC Try.prog 13 [moV p m, .slice pa n pc] w (fun u w' => AnsRun M w w' m ops u) := by
  subst hn
  have hF0 := hF
  refine FC.intro Try.func13 rfl Try.ntmps13 rfl ?_
  have S := Sub.refl w
  refine RC.seq ?_
  refine RC.region rfl ?_
  refine RL.box rfl rfl rfl (fun b_2 w_2 e_2 z_2 hb_2 s_2 => ?_)
  have ge_2 := S.le e_2
  have d_hF_b_2 := hF.neNew e_2
  have S := S.trans s_2
  have hF := hF.sub s_2
  have hb_2 : Has w_2 b_2 ([.slice p.a1 m.map.length p.c1, .slice p.a2 m.tab.length p.c2, .slice p.a3 m.row.length p.c3, .slice p.a4 m.heap.length p.c4]) _ := hb_2
  refine RL.alloc ze25 rfl rfl (fun b_4 w_4 e_4 z_4 hb_4 s_4 => ?_)
  have ge_4 := S.le e_4
  have n_2__4 := hb_2.ne e_4
  have d_hF_b_4 := hF.neNew e_4
  have S := S.trans s_4
  have hF := hF.sub s_4
  have hb_2 := hb_2.sub s_4
  refine RL.ev (.assign rfl) rfl rfl ?_
  refine RL.ev (.assign rfl) rfl rfl ?_
  refine RL.nil (RC.back ?_)
  refine RC.seq ?_
  refine RC.seq ?_
  refine RC.region rfl ?_
  refine RL.ev (.loadR ([.slice p.a1 m.map.length p.c1, .slice p.a2 m.tab.length p.c2, .slice p.a3 m.row.length p.c3, .slice p.a4 m.heap.length p.c4]) sh25 rfl hb_2.row rfl) rfl rfl ?_
  refine RL.call rfl ok19 (c_right p m hs w_4 hF.now) rfl rfl ?_
  rintro _ w1 ⟨rfl, s2⟩
  have S := S.trans s2
  have hF := hF.sub s2
  have hb_2 := hb_2.sub s2
  have hb_4 := hb_4.sub s2
  refine RL.ev (.not rfl) rfl rfl ?_
  refine RL.ev (.move rfl) rfl rfl ?_
  refine RL.splitB 15 rfl (fun h3 => ?_) (fun h3 => ?_)
  ·
    have g15 : ¬ rightM m := (fun e => by rw [pB_yes e] at h3; cases h3)
    refine RL.off rfl rfl ?_
    refine RL.off rfl rfl ?_
    refine RL.off rfl rfl ?_
    refine RL.ev (.pick_t rfl rfl) rfl rfl ?_
    refine RL.ev (.move rfl) rfl rfl ?_
    refine RL.off rfl rfl ?_
    refine RL.off rfl rfl ?_
    refine RL.ev (.pick_t rfl rfl) rfl rfl ?_
    refine RL.nil (RC.back ?_)
    refine RC.cond_t rfl ?_
    refine RC.seq ?_
    refine RC.region rfl ?_
    refine RL.ev (.as (v' := .agg #[.slice none 0 0, .slice none 0 0, .slice none 0 0, .slice none 0 0]) (.buildS ze25 pl25 rfl rfl) (by kernel_rfl)) rfl rfl ?_
    refine RL.store sh25 rfl rfl rfl hb_4 (by exact Nat.le_of_ble_eq_true rfl) (by rfl) rfl (fun w4 z4 hb_4 a4 => ?_)
    have S := S.upd a4 ge_4
    have hF := hF.updD a4 d_hF_b_4
    have hb_2 := hb_2.upd a4 n_2__4
    have hb_4 : Has w4 b_4 ([.slice none 0 0, .slice none 0 0, .slice none 0 0, .slice none 0 0]) _ := hb_4.now (by kernel_rfl)
    refine RL.ev (.assign rfl) rfl rfl ?_
    refine RL.ev (.assign rfl) rfl rfl ?_
    refine RL.nil (RC.back ?_)
    refine RC.done (rs := [.cell 4 25, .tmp 5, .tmp 6]) (vs := [_, _, _]) rfl rfl ⟨⟨_, rfl, .inr ⟨[.slice none 0 0, .slice none 0 0, .slice none 0 0, .slice none 0 0], sh25, hb_4.row, rfl⟩⟩, rfl, rfl, trivial⟩ ?_
    -- end 1
    exact ⟨S, .inr ⟨fun e => g15 e.1, rfl⟩⟩
  ·
    have g15 : rightM m := (by have q := h3; rw [Bool.not_eq_false'] at q; exact pB_iff.1 q)
    refine RL.ev (.move rfl) rfl rfl ?_
    refine RL.ev (.len sl26 rfl) rfl rfl ?_
    refine RL.ev (.as (v' := .bool false) (.bin rfl rfl rfl) (congrArg Value.bool (decide_eq_false (by omega)))) rfl rfl ?_
    refine RL.ev (.pick_f rfl rfl) rfl rfl ?_
    refine RL.ev (.move rfl) rfl rfl ?_
    refine RL.ev (.move rfl) rfl rfl ?_
    refine RL.call rfl ok23 (c_containsOp 24 ok24 [] (fun o => !decide (okP o)) ops pa pc _ rfl w1 (fun x _ w' _ => c_run1 x w') (ho.sub S) (by omega)) rfl rfl ?_
    rintro _ w5 ⟨rfl, s6⟩
    have S := S.trans s6
    have hF := hF.sub s6
    have hb_2 := hb_2.sub s6
    have hb_4 := hb_4.sub s6
    refine RL.ev (.pick_f rfl rfl) rfl rfl ?_
    refine RL.nil (RC.back ?_)
    refine RC.cond rfl (fun h7 => ?_) (fun h7 => ?_)
    ·
      have g23 : ¬ ∀ o ∈ ops, okP o := (fun e => by have q := h7; rw [List.any_eq_true] at q; obtain ⟨x, hx, hq⟩ := q; simp [e x hx] at hq)
      refine RC.seq ?_
      refine RC.region rfl ?_
      refine RL.ev (.as (v' := .agg #[.slice none 0 0, .slice none 0 0, .slice none 0 0, .slice none 0 0]) (.buildS ze25 pl25 rfl rfl) (by kernel_rfl)) rfl rfl ?_
      refine RL.store sh25 rfl rfl rfl hb_4 (by exact Nat.le_of_ble_eq_true rfl) (by rfl) rfl (fun w8 z8 hb_4 a8 => ?_)
      have S := S.upd a8 ge_4
      have hF := hF.updD a8 d_hF_b_4
      have hb_2 := hb_2.upd a8 n_2__4
      have hb_4 : Has w8 b_4 ([.slice none 0 0, .slice none 0 0, .slice none 0 0, .slice none 0 0]) _ := hb_4.now (by kernel_rfl)
      refine RL.ev (.assign rfl) rfl rfl ?_
      refine RL.ev (.assign rfl) rfl rfl ?_
      refine RL.nil (RC.back ?_)
      refine RC.done (rs := [.cell 4 25, .tmp 5, .tmp 6]) (vs := [_, _, _]) rfl rfl ⟨⟨_, rfl, .inr ⟨[.slice none 0 0, .slice none 0 0, .slice none 0 0, .slice none 0 0], sh25, hb_4.row, rfl⟩⟩, rfl, rfl, trivial⟩ ?_
      -- end 2
      exact ⟨S, .inr ⟨fun e => g23 e.2, rfl⟩⟩
    ·
      have g23 : ∀ o ∈ ops, okP o := (fun x hx => by have q := h7; rw [List.any_eq_false] at q; have := q x hx; simpa using this)
      have hok : runOk m ops := ⟨g15, g23⟩
      refine RC.skip (RC.back ?_)
      refine RC.seq ?_
      refine RC.region rfl ?_
      refine RL.ev (.assign rfl) rfl rfl ?_
      refine RL.nil (RC.back ?_)
      refine RC.seq ?_
      refine RC.seq ?_
      refine RC.region rfl ?_
      refine RL.ev (.move rfl) rfl rfl ?_
      refine RL.ev (.len sl26 rfl) rfl rfl ?_
      refine RL.ev (.move rfl) rfl rfl ?_
      refine RL.nil (RC.back ?_)
      refine RC.block ?_
      refine RC.loop (α := Nat × (Mo × List ResT) × Ph × (Nat → Prop) × Option Addr × Nat) (fun x => [(2, .pointer (some ⟨b_2, 0, none⟩)), (4, .pointer (some ⟨b_4, 0, none⟩)), (7, .slice x.2.2.2.2.1 (x.2.1.2.map ResT.cells).length x.2.2.2.2.2), (25, .slice pa ops.length pc), (26, .int .i64 (ops.length : Int)), (27, .int .i64 (x.1 : Int))]) (fun x w9 => (x.1 ≤ ops.length ∧ x.2.1 = runM m (ops.take x.1)) ∧ RunI b_2 b_4 w w9 M x.2.1 x.2.2.1 x.2.2.2.1 x.2.2.2.2.1 x.2.2.2.2.2) (fun x => ops.length - x.1) (0, (m, []), p, M, none, 0) (keep_of (by repeat (first | exact trivial | refine And.intro rfl ?_))) (⟨⟨Nat.zero_le _, rfl⟩, ⟨hb_2, hb_4, hF, hs, Ows.nil _ _ _ _, d_hF_b_2, d_hF_b_4, fun k hk => obNil hk, fun k hk => obNil hk, fun k hk => obNil hk, Up.refl _ _, S⟩⟩) (fun x w9 hJ => ?_)
      obtain ⟨i, cur, p', M', a7, c7⟩ := x; obtain ⟨⟨hi, hcur⟩, ⟨hb_2, hb_4, hF, hs', o7, d1, d2, d3, d4, d5, hup, S⟩⟩ := hJ; simp only [] at hi hcur hb_2 hb_4 hF hs' o7 d1 d2 d3 d4 d5 hup; have szB := S.size; have hrl : cur.2.length = i := (by rw [hcur, runM_len, List.length_take]; omega)
      refine RC.seq ?_
      refine RC.region rfl ?_
      refine RL.ev (.bin rfl rfl rfl) rfl rfl ?_
      refine RL.nil (RC.back ?_)
      refine RC.seq ?_
      refine RC.cond_dec rfl (fun h10 => ?_) (fun h10 => ?_)
      ·
        obtain ⟨o, hx⟩ := getSome (l := ops) (i := i) (by omega)
        have hxm := List.mem_of_getElem? hx
        have hst := runM_step (m := m) hx
        rw [← hcur] at hst
        have hRc : rightM cur.1 := (hcur ▸ rightM_run (hok.take i))
        refine RC.skip (RC.back ?_)
        refine RC.seq ?_
        refine RC.block ?_
        refine RC.seq ?_
        refine RC.region rfl ?_
        refine RL.ev (.indexS sl26 rfl rfl (by omega) (ho.is (i := 0) (by simp only [List.length_map, List.length_cons, List.length_nil]; omega))) rfl rfl ?_
        refine RL.ev (.loadR (o.cells) sh34 rfl ((ho.sub S).rowAt (enc := OpT.cells) (i := i) hx) rfl) rfl rfl ?_
        refine RL.alloc ze34 rfl rfl (fun b_9 w_9 e_9 z_9 hb_9 s_9 => ?_)
        have ge_9 := S.le e_9
        have n_2__9 := hb_2.ne e_9
        have n_4__9 := hb_4.ne e_9
        have d_hF_b_9 := hF.neNew e_9
        have d_o7_b_9 := o7.neNew e_9
        have S := S.trans s_9
        have hb_2 := hb_2.sub s_9
        have hb_4 := hb_4.sub s_9
        have hF := hF.sub s_9
        have o7 := o7.sub s_9
        have szB := Nat.le_trans szB s_9.size
        refine RL.store sh34 rfl rfl rfl hb_9 (by exact Nat.le_of_ble_eq_true rfl) (by rfl) rfl (fun w11 z11 hb_9 a11 => ?_)
        have S := S.upd a11 ge_9
        have hb_2 := hb_2.upd a11 n_2__9
        have hb_4 := hb_4.upd a11 n_4__9
        have hF := hF.updD a11 d_hF_b_9
        have o7 := o7.updD a11 d_o7_b_9
        have szB := Nat.le_trans szB a11.size
        have hb_9 : Has w11 b_9 (o.cells) _ := hb_9.now (by kernel_rfl)
        refine RL.nil (RC.back ?_)
        refine RC.seq ?_
        refine RC.region rfl ?_
        refine RL.ev (.loadR ([.slice p'.a1 cur.1.map.length p'.c1, .slice p'.a2 cur.1.tab.length p'.c2, .slice p'.a3 cur.1.row.length p'.c3, .slice p'.a4 cur.1.heap.length p'.c4]) sh25 rfl hb_2.row rfl) rfl rfl ?_
        refine RL.ev (.loadR (o.cells) sh34 rfl hb_9.row rfl) rfl rfl ?_
        refine RL.call rfl ok26 (c_do p' cur.1 hs' hRc o (g23 o hxm) w11 M' hF) rfl rfl ?_
        rintro _ w12 ⟨s13, p2, M2, rfl, hs2, hF2, hup2⟩
        have d_hF2_b_2 := upNe hup2 d1 hb_2.lt
        have d_hF2_b_4 := upNe hup2 d2 hb_4.lt
        have dd_o7_hF2 := upDD hup2 d5 (fun k hk => (o7.ge k hk).2)
        have d_hF2_b_9 := upNe hup2 d_hF_b_9 hb_9.lt
        have d_o7_hF2 := upDD hup2 d5 (fun k hk => (o7.ge k hk).2)
        have hup2 := hup.trans (hup2.le S.size)
        have S := S.trans s13
        have hb_2 := hb_2.sub s13
        have hb_4 := hb_4.sub s13
        have hF := hF.sub s13
        have o7 := o7.sub s13
        have szB := Nat.le_trans szB s13.size
        have hb_9 := hb_9.sub s13
        refine RL.ev (.move rfl) rfl rfl ?_
        refine RL.ev (.extract rfl rfl) rfl rfl ?_
        refine RL.ev (.extract rfl rfl) rfl rfl ?_
        refine RL.alloc ze25 rfl rfl (fun b_10 w_10 e_10 z_10 hb_10 s_10 => ?_)
        have ge_10 := S.le e_10
        have n_2__10 := hb_2.ne e_10
        have n_4__10 := hb_4.ne e_10
        have n_9__10 := hb_9.ne e_10
        have d_o7_b_10 := o7.neNew e_10
        have d_hF2_b_10 := hF2.neNew e_10
        have S := S.trans s_10
        have hb_2 := hb_2.sub s_10
        have hb_4 := hb_4.sub s_10
        have o7 := o7.sub s_10
        have szB := Nat.le_trans szB s_10.size
        have hb_9 := hb_9.sub s_10
        have hF2 := hF2.sub s_10
        refine RL.alloc ze39 rfl rfl (fun b_11 w_11 e_11 z_11 hb_11 s_11 => ?_)
        have ge_11 := S.le e_11
        have n_2__11 := hb_2.ne e_11
        have n_4__11 := hb_4.ne e_11
        have n_9__11 := hb_9.ne e_11
        have n_10__11 := hb_10.ne e_11
        have d_o7_b_11 := o7.neNew e_11
        have d_hF2_b_11 := hF2.neNew e_11
        have S := S.trans s_11
        have hb_2 := hb_2.sub s_11
        have hb_4 := hb_4.sub s_11
        have o7 := o7.sub s_11
        have szB := Nat.le_trans szB s_11.size
        have hb_9 := hb_9.sub s_11
        have hF2 := hF2.sub s_11
        have hb_10 := hb_10.sub s_11
        refine RL.store sh25 rfl rfl rfl hb_10 (by exact Nat.le_of_ble_eq_true rfl) (by rfl) rfl (fun w14 z14 hb_10 a14 => ?_)
        have S := S.upd a14 ge_10
        have hb_2 := hb_2.upd a14 n_2__10
        have hb_4 := hb_4.upd a14 n_4__10
        have o7 := o7.updD a14 d_o7_b_10
        have szB := Nat.le_trans szB a14.size
        have hb_9 := hb_9.upd a14 n_9__10
        have hF2 := hF2.updD a14 d_hF2_b_10
        have hb_11 := hb_11.upd a14 n_10__11.symm
        have hb_10 : Has w14 b_10 ([.slice p2.a1 (doM cur.1 o).1.map.length p2.c1, .slice p2.a2 (doM cur.1 o).1.tab.length p2.c2, .slice p2.a3 (doM cur.1 o).1.row.length p2.c3, .slice p2.a4 (doM cur.1 o).1.heap.length p2.c4]) _ := hb_10.now (by kernel_rfl)
        refine RL.store sh39 rfl rfl rfl hb_11 (by exact Nat.le_of_ble_eq_true rfl) (by rfl) rfl (fun w15 z15 hb_11 a15 => ?_)
        have S := S.upd a15 ge_11
        have hb_2 := hb_2.upd a15 n_2__11
        have hb_4 := hb_4.upd a15 n_4__11
        have o7 := o7.updD a15 d_o7_b_11
        have szB := Nat.le_trans szB a15.size
        have hb_9 := hb_9.upd a15 n_9__11
        have hF2 := hF2.updD a15 d_hF2_b_11
        have hb_10 := hb_10.upd a15 n_10__11
        have hb_11 : Has w15 b_11 ((doM cur.1 o).2.cells) _ := hb_11.now (by kernel_rfl)
        refine RL.nil (RC.back ?_)
        refine RC.drawD (fun k => k = b_2 ∨ ob (.slice a7 (cur.2.map ResT.cells).length c7) = some k) [5, 4] w15.heap.size 7 rfl rfl mxo (fun w16 s17 => ?_)
        have hNN : ∀ k, ((k = b_2 ∨ ob (.slice a7 (cur.2.map ResT.cells).length c7) = some k) ∨ w15.heap.size ≤ k) → w.heap.size ≤ k := fun k e => e.elim (fun e => e.elim (fun e => e ▸ ge_2) (fun e => Nat.le_trans (by omega) (o7.ge k e).1)) (fun e => Nat.le_trans S.size e)
        have ent_S := S.size
        have hN0 : ∀ k, w15.heap.size ≤ k → w.heap.size ≤ k := fun k e => Nat.le_trans S.size e
        have ltD_b_2 := hb_2.lt
        have ltD_b_4 := hb_4.lt
        have ltD_o7 := fun k hk => (o7.ge k hk).2
        have ltD_b_9 := hb_9.lt
        have ltD_hF2 := fun k hk => (hF2.ge k hk).2
        have ltD_b_10 := hb_10.lt
        have ltD_b_11 := hb_11.lt
        have szD := Nat.le_refl w15.heap.size
        have S := S.trans s17
        have hb_2 := hb_2.sub s17
        have hb_4 := hb_4.sub s17
        have o7 := o7.sub s17
        have szB := Nat.le_trans szB s17.size
        have hb_9 := hb_9.sub s17
        have hF2 := hF2.sub s17
        have hb_10 := hb_10.sub s17
        have hb_11 := hb_11.sub s17
        have szD := Nat.le_trans szD s17.size
        refine RD.take 0 rfl (by kernel_rfl) (by kernel_rfl) (by kernel_rfl) (fun w' s' => .loadR ([.slice p2.a1 (doM cur.1 o).1.map.length p2.c1, .slice p2.a2 (doM cur.1 o).1.tab.length p2.c2, .slice p2.a3 (doM cur.1 o).1.row.length p2.c3, .slice p2.a4 (doM cur.1 o).1.heap.length p2.c4]) sh25 rfl (hb_10.step s' (fun e => e.elim (fun e => e.elim (fun e => n_2__10.symm e) (fun e => d_o7_b_10 _ e rfl)) (fun e => Nat.not_le.2 ltD_b_10 e))).row rfl) rfl rfl ?_
        refine RD.take 1 rfl (by kernel_rfl) (by kernel_rfl) (by kernel_rfl) (fun w' s' => .move rfl) rfl rfl ?_
        refine RD.take 2 rfl (by kernel_rfl) (by kernel_rfl) (by kernel_rfl) (fun w' s' => .loadR ((doM cur.1 o).2.cells) sh39 rfl (hb_11.step s' (fun e => e.elim (fun e => e.elim (fun e => n_2__11.symm e) (fun e => d_o7_b_11 _ e rfl)) (fun e => Nat.not_le.2 ltD_b_11 e))).row rfl) rfl rfl ?_
        refine RD.all [3] (by kernel_rfl) rfl (RDs.cons rfl ?_ (RDs.nil))
        refine RL.buildSlice1 sl28 _ ze39 rfl rfl rfl rfl rfl rfl rfl (fun b_40 w_40 e_40 z_40 hb_40 s_40 => ?_)
        have fr_b_40 : w15.heap.size ≤ b_40 := by rw [e_40]; exact szD
        have ge_40 := S.le e_40
        have n_2__40 := hb_2.ne e_40
        have n_4__40 := hb_4.ne e_40
        have n_9__40 := hb_9.ne e_40
        have n_10__40 := hb_10.ne e_40
        have n_11__40 := hb_11.ne e_40
        have d_o7_b_40 := o7.neNew e_40
        have d_hF2_b_40 := hF2.neNew e_40
        have S := S.trans s_40
        have hb_2 := hb_2.sub s_40
        have hb_4 := hb_4.sub s_40
        have o7 := o7.sub s_40
        have szB := Nat.le_trans szB s_40.size
        have hb_9 := hb_9.sub s_40
        have hF2 := hF2.sub s_40
        have hb_10 := hb_10.sub s_40
        have hb_11 := hb_11.sub s_40
        have szD := Nat.le_trans szD s_40.size
        refine RD.back s_40.agr ?_
        refine RD.all [4] (by kernel_rfl) rfl (RDs.cons rfl ?_ (RDs.nil))
        have sz_41 := S.size
        have ltb_2_41 := hb_2.lt
        have ltb_4_41 := hb_4.lt
        have ltb_9_41 := hb_9.lt
        have ltb_10_41 := hb_10.lt
        have ltb_11_41 := hb_11.lt
        have ltb_40_41 := hb_40.lt
        refine RL.append2 (base := w.heap.size) (rows := cur.2.map ResT.cells) (news := [_]) sl28 ze39 rfl rfl rfl rfl (.inl o7) (Has.slOne hb_40) rfl (by intro r hr; rw [List.mem_singleton] at hr; subst hr; rfl) rfl (by (try simp only [List.length_map, List.length_nil, List.length_append, List.length_cons]); omega) (by (try simp only [List.length_map, List.length_nil, List.length_append, List.length_cons]); omega) (by omega) rfl rfl (fun v_41 w_41 hc_41 ho_41 ag_41 ob_41 => ?_)
        have o41 := ho_41 (.inl (by simp))
        rw [show _ ++ [_] = ((cur.2 ++ [(doM cur.1 o).2]).map ResT.cells) from by rw [List.map_append]; rfl] at o41
        have d_o41_b_2 := obNe ob_41 d3 hb_2.lt
        have d_o41_b_4 := obNe ob_41 d4 hb_4.lt
        have d_o41_b_9 := obNe ob_41 d_o7_b_9 hb_9.lt
        have dd_o41_hF2 := obDF ob_41 d_o7_hF2 (fun k hk => (hF2.ge k hk).2)
        have d_o41_b_10 := obNe ob_41 d_o7_b_10 hb_10.lt
        have d_o41_b_11 := obNe ob_41 d_o7_b_11 hb_11.lt
        have S := S.agrN ag_41 (fun k e => Nat.le_trans (by omega) e.2)
        have hb_2 := hb_2.step ag_41 (fun e => d3 _ e.1 rfl)
        have hb_4 := hb_4.step ag_41 (fun e => d4 _ e.1 rfl)
        have szB := Nat.le_trans szB ag_41.size
        have hb_9 := hb_9.step ag_41 (fun e => d_o7_b_9 _ e.1 rfl)
        have hF2 := hF2.step ag_41 (fun k hk e => d_o7_hF2 k e.1 hk)
        have hb_10 := hb_10.step ag_41 (fun e => d_o7_b_10 _ e.1 rfl)
        have hb_11 := hb_11.step ag_41 (fun e => d_o7_b_11 _ e.1 rfl)
        have szD := Nat.le_trans szD ag_41.size
        obtain ⟨a_41, c_41, rfl, k_41⟩ := o41.form
        refine RD.backW rfl (ag_41.mono fun k _ e => .inl (.inr (e.1))) ?_
        refine RD.all [5] (by kernel_rfl) rfl (RDs.cons rfl ?_ (RDs.nil))
        refine RL.store sh25 rfl rfl rfl hb_2 (by exact Nat.le_of_ble_eq_true rfl) (by rfl) rfl (fun w18 z18 hb_2 a18 => ?_)
        have S := S.upd a18 ge_2
        have hb_4 := hb_4.upd a18 n_2__4.symm
        have szB := Nat.le_trans szB a18.size
        have hb_9 := hb_9.upd a18 n_2__9.symm
        have hF2 := hF2.updD a18 d_hF2_b_2
        have hb_10 := hb_10.upd a18 n_2__10.symm
        have hb_11 := hb_11.upd a18 n_2__11.symm
        have szD := Nat.le_trans szD a18.size
        have o41 := o41.updD a18 d_o41_b_2
        have hb_2 : Has w18 b_2 ([.slice p2.a1 (doM cur.1 o).1.map.length p2.c1, .slice p2.a2 (doM cur.1 o).1.tab.length p2.c2, .slice p2.a3 (doM cur.1 o).1.row.length p2.c3, .slice p2.a4 (doM cur.1 o).1.heap.length p2.c4]) _ := hb_2.now (by kernel_rfl)
        refine RD.backW rfl (a18.mono fun k _ e => e ▸ (.inl (.inl rfl))) ?_
        refine RD.take 6 rfl (by kernel_rfl) (by kernel_rfl) (by kernel_rfl) (fun w' s' => .assign rfl) rfl rfl ?_
        refine RD.done (by kernel_rfl) (RC.back ?_)
        refine RC.region rfl ?_
        refine RL.ev (.as (.bin rfl rfl rfl) (wi64 (y := ((i + 1 : Nat) : Int)) (by omega) (by omega))) rfl rfl ?_
        refine RL.ev (.move rfl) rfl rfl ?_
        exact RL.nil (fun a ka => ⟨(i + 1, ((doM cur.1 o).1, cur.2 ++ [(doM cur.1 o).2]), p2, M2, a_41, c_41), ⟨⟨by omega, by rw [hst]⟩, ⟨hb_2, hb_4, hF2, hs2, o41, d_hF2_b_2, d_hF2_b_4, d_o41_b_2, d_o41_b_4, dd_o41_hF2, hup2, S⟩⟩, by omega, ka.keep (keep_of (by repeat (first | exact trivial | refine And.intro rfl ?_)))⟩)
      ·
        obtain rfl : i = ops.length := (by omega)
        rw [List.take_length] at hcur
        refine RC.exit rfl (RC.back ?_)
        refine RC.seq ?_
        refine RC.region rfl ?_
        refine RL.ev (.loadR ([.slice p'.a1 cur.1.map.length p'.c1, .slice p'.a2 cur.1.tab.length p'.c2, .slice p'.a3 cur.1.row.length p'.c3, .slice p'.a4 cur.1.heap.length p'.c4]) sh25 rfl hb_2.row rfl) rfl rfl ?_
        refine RL.ev (.move rfl) rfl rfl ?_
        refine RL.store sh25 rfl rfl rfl hb_4 (by exact Nat.le_of_ble_eq_true rfl) (by rfl) rfl (fun w19 z19 hb_4 a19 => ?_)
        have S := S.upd a19 ge_4
        have hb_2 := hb_2.upd a19 n_2__4
        have hF := hF.updD a19 d2
        have o7 := o7.updD a19 d4
        have szB := Nat.le_trans szB a19.size
        have hb_4 : Has w19 b_4 ([.slice p'.a1 cur.1.map.length p'.c1, .slice p'.a2 cur.1.tab.length p'.c2, .slice p'.a3 cur.1.row.length p'.c3, .slice p'.a4 cur.1.heap.length p'.c4]) _ := hb_4.now (by kernel_rfl)
        refine RL.ev (.assign rfl) rfl rfl ?_
        refine RL.ev (.assign rfl) rfl rfl ?_
        refine RL.nil (RC.back ?_)
        refine RC.done (rs := [.cell 4 25, .tmp 5, .tmp 6]) (vs := [_, _, _]) rfl rfl ⟨⟨_, rfl, .inr ⟨[.slice p'.a1 cur.1.map.length p'.c1, .slice p'.a2 cur.1.tab.length p'.c2, .slice p'.a3 cur.1.row.length p'.c3, .slice p'.a4 cur.1.heap.length p'.c4], sh25, hb_4.row, rfl⟩⟩, rfl, rfl, trivial⟩ ?_
        -- end 3
        exact ⟨S, .inl ⟨hok, p', M', a7, c7, by rw [← hcur]; rfl, by rw [← hcur]; exact hs', by rw [← hcur]; exact hF, hup, by rw [← hcur]; exact o7, by rw [← hcur]; exact d5⟩⟩
end Go.Proofs.Ytjafbffehmombaa
set_option linter.unusedVariables false
set_option linter.unusedSimpArgs false
namespace Go.Proofs.Ytjafbffehmombaa
open Go Go.XL
theorem fit_it (r : List Value) (h : fitsR [some .i64, some .i64] r) : ∃ x : It, r = x.cells ∧ x.ok := by
  obtain ⟨_, _, rfl, h0, h⟩ := fitsR_cons h
  obtain ⟨_, _, rfl, h1, h⟩ := fitsR_cons h
  obtain rfl := fitsR_nil h
  obtain ⟨a, rfl, g⟩ := fitI h0
  obtain ⟨b, rfl, k⟩ := fitI h1
  exact ⟨⟨a, b⟩, rfl, g, k⟩
theorem fit_op (r : List Value) (h : fitsR [some .i64, some .i64, some .i64, some .i64] r) : ∃ x : OpT, r = x.cells ∧ x.ok := by
  obtain ⟨_, _, rfl, h0, h⟩ := fitsR_cons h
  obtain ⟨_, _, rfl, h1, h⟩ := fitsR_cons h
  obtain ⟨_, _, rfl, h2, h⟩ := fitsR_cons h
  obtain ⟨_, _, rfl, h3, h⟩ := fitsR_cons h
  obtain rfl := fitsR_nil h
  obtain ⟨a, rfl, g⟩ := fitI h0
  obtain ⟨b, rfl, k⟩ := fitI h1
  obtain ⟨c, rfl, k2⟩ := fitI h2
  obtain ⟨d, rfl, k3⟩ := fitI h3
  exact ⟨⟨a, b, c, d⟩, rfl, g, k, k2, k3⟩
section
variable {H : Type} {enc : TypeId × Value → H} {W : World} {base : Nat} {sp : Nat → Bool} {held : Bool} {v : Value} {d : DataW H} {ps : List MemPlace} {r : Reach} {b : Nat}
set_option maxRecDepth 100000 in
theorem open_ops (hok : Value.okWide Try.prog W r b 26 v) (h : DataW.Trod enc Try.prog W base sp held 26 v d ps) : ∃ (a : Option Addr) (l : List OpT) (c : Nat), v = .slice a l.length c ∧ l.length ≤ c ∧ c ≤ maxLen ∧ Sl W a 4 (l.map OpT.cells) ∧ ∀ x ∈ l, x.ok :=
  open_sl OpT.cells OpT.ok sl26 fk34 rfl fit_op hok h
set_option maxRecDepth 100000 in
theorem open_mo (hok : Value.okWide Try.prog W r b 25 v) (h : DataW.Trod enc Try.prog W base sp held 25 v d ps) : ∃ (p : Ph) (m : Mo), v = moV p m ∧ (m.map.length ≤ p.c1 ∧ m.tab.length ≤ p.c2 ∧ m.row.length ≤ p.c3 ∧ m.heap.length ≤ p.c4) ∧ MoR W p m := by
  obtain ⟨n, hn⟩ := h
  simp only [Value.okWide, Try.underlying25] at hok
  obtain ⟨cs, rfl, hc, _⟩ := hok
  obtain ⟨xs, n', rfl, _, hlen, hxl, hf⟩ := DataW.trod_struct Try.underlying25 hn
  rw [cellsOf_shape sh25] at hlen
  have hq : (Value.agg cs).cells.toList = cs.toList := rfl
  rw [hq] at hlen hf
  obtain ⟨c0, c1, c2, c3, hcs⟩ : ∃ c0 c1 c2 c3, cs.toList = [c0, c1, c2, c3] := by
    match hq : cs.toList, hlen with
    | [a, b, c, d], _ => exact ⟨a, b, c, d, rfl⟩
  rw [hcs] at hf
  have f0 := hf 0 (fieldAt Try.prog 25 0) (by kernel_rfl)
  have f1 := hf 1 (fieldAt Try.prog 25 1) (by kernel_rfl)
  have f2 := hf 2 (fieldAt Try.prog 25 2) (by kernel_rfl)
  have f3 := hf 3 (fieldAt Try.prog 25 3) (by kernel_rfl)
  obtain ⟨x0, hx0⟩ : ∃ x, xs[0]? = some x := ⟨_, List.getElem?_eq_getElem (by rw [hxl]; decide +kernel)⟩
  obtain ⟨x1, hx1⟩ : ∃ x, xs[1]? = some x := ⟨_, List.getElem?_eq_getElem (by rw [hxl]; decide +kernel)⟩
  obtain ⟨x2, hx2⟩ : ∃ x, xs[2]? = some x := ⟨_, List.getElem?_eq_getElem (by rw [hxl]; decide +kernel)⟩
  obtain ⟨x3, hx3⟩ : ∃ x, xs[3]? = some x := ⟨_, List.getElem?_eq_getElem (by rw [hxl]; decide +kernel)⟩
  rw [hx0, show (fieldAt Try.prog 25 0).offset = 0 by kernel_rfl, show (fieldAt Try.prog 25 0).type = 22 by kernel_rfl, cellsOf_shape sh22] at f0
  rw [hx1, show (fieldAt Try.prog 25 1).offset = 1 by kernel_rfl, show (fieldAt Try.prog 25 1).type = 22 by kernel_rfl, cellsOf_shape sh22] at f1
  rw [hx2, show (fieldAt Try.prog 25 2).offset = 2 by kernel_rfl, show (fieldAt Try.prog 25 2).type = 23 by kernel_rfl, cellsOf_shape sh23] at f2
  rw [hx3, show (fieldAt Try.prog 25 3).offset = 3 by kernel_rfl, show (fieldAt Try.prog 25 3).type = 22 by kernel_rfl, cellsOf_shape sh22] at f3
  obtain ⟨a1, r1, k1, e1, g1, _, s1, t1⟩ := trod_sl sl22 fk45 rfl f0
  obtain ⟨a2, r2, k2, e2, g2, _, s2, t2⟩ := trod_sl sl22 fk45 rfl f1
  obtain ⟨a3, r3, k3, e3, g3, _, s3, t3⟩ := trod_sl sl23 (ks := [some .i64]) rfl rfl f2
  obtain ⟨a4, r4, k4, e4, g4, _, s4, t4⟩ := trod_sl sl22 fk45 rfl f3
  obtain ⟨l1, rfl, _⟩ := rows_of (enc := It.cells) (ok := It.ok) r1 (fun r hr => fit_it r (t1 r hr))
  obtain ⟨l2, rfl, _⟩ := rows_of (enc := It.cells) (ok := It.ok) r2 (fun r hr => fit_it r (t2 r hr))
  obtain ⟨l3, rfl, _⟩ := rows_of (enc := fun x => [i6 x]) (ok := I64) r3 (fun r hr => fit_int r (t3 r hr))
  obtain ⟨l4, rfl, _⟩ := rows_of (enc := It.cells) (ok := It.ok) r4 (fun r hr => fit_it r (t4 r hr))
  simp only [List.length_map] at e1 e2 e3 e4 g1 g2 g3 g4
  simp only [List.drop, List.take, List.cons.injEq, and_true] at e1 e2 e3 e4
  subst e1 e2 e3 e4
  refine ⟨⟨a1, k1, a2, k2, a3, k3, a4, k4⟩, ⟨l1, l2, l3, l4⟩, ?_, ⟨g1, g2, g3, g4⟩, ⟨s1, s2, s3, s4⟩⟩
  show Value.agg cs = Value.agg _
  congr 1
  rw [← Array.toArray_toList (xs := cs), hcs]
  rfl
end
def fewM (m : Mo) : Mo := ⟨m.map.take 205, m.tab.take 205, m.row.take 205, m.heap.take 205⟩
theorem fewM_R {w : World} {p : Ph} {m : Mo} (h : MoR w p m) : MoR w p (fewM m) :=
  ⟨by rw [fewM, List.map_take]; exact h.h1.take _, by rw [fewM, List.map_take]; exact h.h2.take _, by rw [fewM, List.map_take]; exact h.h3.take _, by rw [fewM, List.map_take]; exact h.h4.take _⟩
theorem fewM_S {p : Ph} {m : Mo} (h : m.map.length ≤ p.c1 ∧ m.tab.length ≤ p.c2 ∧ m.row.length ≤ p.c3 ∧ m.heap.length ≤ p.c4) : MoS p (fewM m) := by
  constructor <;> simp only [fewM, List.length_take] <;> omega
theorem c_few14 (p : Ph) (m : Mo) (h : m.map.length ≤ p.c1 ∧ m.tab.length ≤ p.c2 ∧ m.row.length ≤ p.c3 ∧ m.heap.length ≤ p.c4) (w : World) :
    FC Try.prog 12 [moV p m] w (Val (moV p (fewM m)) w) := by
  refine FC.intro Try.func12 rfl Try.ntmps12 rfl ?_
  have S := Sub.refl w
  refine RC.seq ?_
  refine RC.region rfl ?_
  refine RL.box rfl rfl rfl (fun b_1 w_1 e_1 z_1 hb_1 s_1 => ?_)
  have ge_1 := S.le e_1
  have S := S.trans s_1
  have hb_1 : Has w_1 b_1 ([.slice p.a1 m.map.length p.c1, .slice p.a2 m.tab.length p.c2, .slice p.a3 m.row.length p.c3, .slice p.a4 m.heap.length p.c4]) _ := hb_1
  refine RL.alloc ze25 rfl rfl (fun b_2 w_2 e_2 z_2 hb_2 s_2 => ?_)
  have ge_2 := S.le e_2
  have n_1__2 := hb_1.ne e_2
  have S := S.trans s_2
  have hb_1 := hb_1.sub s_2
  refine RL.nil (RC.back ?_)
  refine RC.seq ?_
  refine RC.drawD (fun k => k = b_1) [29, 31, 33, 35] w_2.heap.size 36 rfl rfl mxo (fun w1 s2 => ?_)
  have hNN : ∀ k, ((k = b_1) ∨ w_2.heap.size ≤ k) → w.heap.size ≤ k := fun k e => e.elim (fun e => e ▸ ge_1) (fun e => Nat.le_trans S.size e)
  have ent_S := S.size
  have hN0 : ∀ k, w_2.heap.size ≤ k → w.heap.size ≤ k := fun k e => Nat.le_trans S.size e
  have ltD_b_1 := hb_1.lt
  have ltD_b_2 := hb_2.lt
  have szD := Nat.le_refl w_2.heap.size
  have S := S.trans s2
  have hb_1 := hb_1.sub s2
  have hb_2 := hb_2.sub s2
  have szD := Nat.le_trans szD s2.size
  refine RD.take 0 rfl (by kernel_rfl) (by kernel_rfl) (by kernel_rfl) (fun w' s' => .field0 fo25_0 rfl) rfl rfl ?_
  refine RD.takeL 1 rfl (by kernel_rfl) (by kernel_rfl) (by kernel_rfl) (by kernel_rfl) (fun w' s' => .load1 sh22 rfl ((hb_1.step s' (fun e => Nat.not_le.2 ltD_b_1 e)).cell rfl)) rfl rfl ?_
  refine RD.take 2 rfl (by kernel_rfl) (by kernel_rfl) (by kernel_rfl) (fun w' s' => .field0 fo25_0 rfl) rfl rfl ?_
  refine RD.takeL 3 rfl (by kernel_rfl) (by kernel_rfl) (by kernel_rfl) (by kernel_rfl) (fun w' s' => .load1 sh22 rfl ((hb_1.step s' (fun e => Nat.not_le.2 ltD_b_1 e)).cell rfl)) rfl rfl ?_
  refine RD.take 4 rfl (by kernel_rfl) (by kernel_rfl) (by kernel_rfl) (fun w' s' => .len sl22 rfl) rfl rfl ?_
  refine RD.take 5 rfl (by kernel_rfl) (by kernel_rfl) (by kernel_rfl) (fun w' s' => .min2 rfl rfl) rfl rfl ?_
  refine RD.take 6 rfl (by kernel_rfl) (by kernel_rfl) (by kernel_rfl) (fun w' s' => .as (v' := .slice p.a1 (m.map.take 205).length p.c1) (.sliceHi sl22 rfl rfl (by split <;> omega)) (by rw [← few_len]; rfl)) rfl rfl ?_
  refine RD.take 7 rfl (by kernel_rfl) (by kernel_rfl) (by kernel_rfl) (fun w' s' => .field0 fo25_1 rfl) rfl rfl ?_
  refine RD.takeL 8 rfl (by kernel_rfl) (by kernel_rfl) (by kernel_rfl) (by kernel_rfl) (fun w' s' => .load1 sh22 rfl ((hb_1.step s' (fun e => Nat.not_le.2 ltD_b_1 e)).cell rfl)) rfl rfl ?_
  refine RD.take 9 rfl (by kernel_rfl) (by kernel_rfl) (by kernel_rfl) (fun w' s' => .field0 fo25_1 rfl) rfl rfl ?_
  refine RD.takeL 10 rfl (by kernel_rfl) (by kernel_rfl) (by kernel_rfl) (by kernel_rfl) (fun w' s' => .load1 sh22 rfl ((hb_1.step s' (fun e => Nat.not_le.2 ltD_b_1 e)).cell rfl)) rfl rfl ?_
  refine RD.take 11 rfl (by kernel_rfl) (by kernel_rfl) (by kernel_rfl) (fun w' s' => .len sl22 rfl) rfl rfl ?_
  refine RD.take 12 rfl (by kernel_rfl) (by kernel_rfl) (by kernel_rfl) (fun w' s' => .min2 rfl rfl) rfl rfl ?_
  refine RD.take 13 rfl (by kernel_rfl) (by kernel_rfl) (by kernel_rfl) (fun w' s' => .as (v' := .slice p.a2 (m.tab.take 205).length p.c2) (.sliceHi sl22 rfl rfl (by split <;> omega)) (by rw [← few_len]; rfl)) rfl rfl ?_
  refine RD.take 14 rfl (by kernel_rfl) (by kernel_rfl) (by kernel_rfl) (fun w' s' => .field0 fo25_2 rfl) rfl rfl ?_
  refine RD.takeL 15 rfl (by kernel_rfl) (by kernel_rfl) (by kernel_rfl) (by kernel_rfl) (fun w' s' => .load1 sh23 rfl ((hb_1.step s' (fun e => Nat.not_le.2 ltD_b_1 e)).cell rfl)) rfl rfl ?_
  refine RD.take 16 rfl (by kernel_rfl) (by kernel_rfl) (by kernel_rfl) (fun w' s' => .field0 fo25_2 rfl) rfl rfl ?_
  refine RD.takeL 17 rfl (by kernel_rfl) (by kernel_rfl) (by kernel_rfl) (by kernel_rfl) (fun w' s' => .load1 sh23 rfl ((hb_1.step s' (fun e => Nat.not_le.2 ltD_b_1 e)).cell rfl)) rfl rfl ?_
  refine RD.take 18 rfl (by kernel_rfl) (by kernel_rfl) (by kernel_rfl) (fun w' s' => .len sl23 rfl) rfl rfl ?_
  refine RD.take 19 rfl (by kernel_rfl) (by kernel_rfl) (by kernel_rfl) (fun w' s' => .min2 rfl rfl) rfl rfl ?_
  refine RD.take 20 rfl (by kernel_rfl) (by kernel_rfl) (by kernel_rfl) (fun w' s' => .as (v' := .slice p.a3 (m.row.take 205).length p.c3) (.sliceHi sl23 rfl rfl (by split <;> omega)) (by rw [← few_len]; rfl)) rfl rfl ?_
  refine RD.take 21 rfl (by kernel_rfl) (by kernel_rfl) (by kernel_rfl) (fun w' s' => .field0 fo25_3 rfl) rfl rfl ?_
  refine RD.takeL 22 rfl (by kernel_rfl) (by kernel_rfl) (by kernel_rfl) (by kernel_rfl) (fun w' s' => .load1 sh22 rfl ((hb_1.step s' (fun e => Nat.not_le.2 ltD_b_1 e)).cell rfl)) rfl rfl ?_
  refine RD.take 23 rfl (by kernel_rfl) (by kernel_rfl) (by kernel_rfl) (fun w' s' => .field0 fo25_3 rfl) rfl rfl ?_
  refine RD.takeL 24 rfl (by kernel_rfl) (by kernel_rfl) (by kernel_rfl) (by kernel_rfl) (fun w' s' => .load1 sh22 rfl ((hb_1.step s' (fun e => Nat.not_le.2 ltD_b_1 e)).cell rfl)) rfl rfl ?_
  refine RD.take 25 rfl (by kernel_rfl) (by kernel_rfl) (by kernel_rfl) (fun w' s' => .len sl22 rfl) rfl rfl ?_
  refine RD.take 26 rfl (by kernel_rfl) (by kernel_rfl) (by kernel_rfl) (fun w' s' => .min2 rfl rfl) rfl rfl ?_
  refine RD.take 27 rfl (by kernel_rfl) (by kernel_rfl) (by kernel_rfl) (fun w' s' => .as (v' := .slice p.a4 (m.heap.take 205).length p.c4) (.sliceHi sl22 rfl rfl (by split <;> omega)) (by rw [← few_len]; rfl)) rfl rfl ?_
  refine RD.take 28 rfl (by kernel_rfl) (by kernel_rfl) (by kernel_rfl) (fun w' s' => .field0 fo25_0 rfl) rfl rfl ?_
  refine RD.all [29] (by kernel_rfl) rfl (RDs.cons rfl ?_ (RDs.nil))
  refine RL.store sh22 rfl rfl rfl hb_1 (by exact Nat.le_of_ble_eq_true rfl) (by rfl) rfl (fun w3 z3 hb_1 a3 => ?_)
  have S := S.upd a3 ge_1
  have hb_2 := hb_2.upd a3 n_1__2.symm
  have szD := Nat.le_trans szD a3.size
  refine RD.backW rfl (a3.mono fun k _ e => e ▸ (.inl (rfl))) ?_
  refine RD.take 30 rfl (by kernel_rfl) (by kernel_rfl) (by kernel_rfl) (fun w' s' => .field0 fo25_1 rfl) rfl rfl ?_
  refine RD.all [31] (by kernel_rfl) rfl (RDs.cons rfl ?_ (RDs.nil))
  refine RL.store sh22 rfl rfl rfl hb_1 (by exact Nat.le_of_ble_eq_true rfl) (by rfl) rfl (fun w4 z4 hb_1 a4 => ?_)
  have S := S.upd a4 ge_1
  have hb_2 := hb_2.upd a4 n_1__2.symm
  have szD := Nat.le_trans szD a4.size
  refine RD.backW rfl (a4.mono fun k _ e => e ▸ (.inl (rfl))) ?_
  refine RD.take 32 rfl (by kernel_rfl) (by kernel_rfl) (by kernel_rfl) (fun w' s' => .field0 fo25_2 rfl) rfl rfl ?_
  refine RD.all [33] (by kernel_rfl) rfl (RDs.cons rfl ?_ (RDs.nil))
  refine RL.store sh23 rfl rfl rfl hb_1 (by exact Nat.le_of_ble_eq_true rfl) (by rfl) rfl (fun w5 z5 hb_1 a5 => ?_)
  have S := S.upd a5 ge_1
  have hb_2 := hb_2.upd a5 n_1__2.symm
  have szD := Nat.le_trans szD a5.size
  refine RD.backW rfl (a5.mono fun k _ e => e ▸ (.inl (rfl))) ?_
  refine RD.take 34 rfl (by kernel_rfl) (by kernel_rfl) (by kernel_rfl) (fun w' s' => .field0 fo25_3 rfl) rfl rfl ?_
  refine RD.all [35] (by kernel_rfl) rfl (RDs.cons rfl ?_ (RDs.nil))
  refine RL.store sh22 rfl rfl rfl hb_1 (by exact Nat.le_of_ble_eq_true rfl) (by rfl) rfl (fun w6 z6 hb_1 a6 => ?_)
  have S := S.upd a6 ge_1
  have hb_2 := hb_2.upd a6 n_1__2.symm
  have szD := Nat.le_trans szD a6.size
  refine RD.backW rfl (a6.mono fun k _ e => e ▸ (.inl (rfl))) ?_
  refine RD.done (by kernel_rfl) (RC.back ?_)
  refine RC.seq ?_
  refine RC.region rfl ?_
  refine RL.ev (.loadR ([.slice p.a1 (m.map.take 205).length p.c1, .slice p.a2 (m.tab.take 205).length p.c2, .slice p.a3 (m.row.take 205).length p.c3, .slice p.a4 (m.heap.take 205).length p.c4]) sh25 rfl hb_1.row rfl) rfl rfl ?_
  refine RL.store sh25 rfl rfl rfl hb_2 (by exact Nat.le_of_ble_eq_true rfl) (by rfl) rfl (fun w7 z7 hb_2 a7 => ?_)
  have S := S.upd a7 ge_2
  have hb_1 := hb_1.upd a7 n_1__2
  have hb_2 : Has w7 b_2 ([.slice p.a1 (m.map.take 205).length p.c1, .slice p.a2 (m.tab.take 205).length p.c2, .slice p.a3 (m.row.take 205).length p.c3, .slice p.a4 (m.heap.take 205).length p.c4]) _ := hb_2.now (by kernel_rfl)
  refine RL.nil (RC.back ?_)
  refine RC.done (rs := [.cell 2 25]) (vs := [_]) rfl rfl ⟨⟨_, rfl, .inr ⟨[.slice p.a1 (m.map.take 205).length p.c1, .slice p.a2 (m.tab.take 205).length p.c2, .slice p.a3 (m.row.take 205).length p.c3, .slice p.a4 (m.heap.take 205).length p.c4], sh25, hb_2.row, rfl⟩⟩, trivial⟩ ?_
  -- end 1
  exact ⟨rfl, S⟩
def alOps : List OpT := [⟨1, 2, 5, 7⟩, ⟨1, 2, 5, 8⟩]
theorem m0_right : rightM m0 := by
  rw [rightM_iff]
  refine ⟨fun i x y h => by simp [m0] at h, fun x h => by simp [m0] at h, ⟨fun x h => by simp [m0] at h, by decide⟩, ⟨fun x h => by simp [m0] at h, by decide⟩, ⟨fun x h => by simp [m0] at h, by decide⟩, by decide, List.Pairwise.nil, List.Pairwise.nil⟩
theorem c_alive14 (w : World) : FC Try.prog 16 [] w (Val (.bool true) w) := by
  have hok : runOk m0 alOps := ⟨m0_right, by decide⟩
  have h0 := m0_F (fun _ => False) (w := w) (fun k h => h.elim)
  refine FC.intro Try.func16 rfl Try.ntmps16 rfl ?_
  have S := Sub.refl w
  refine RC.seq ?_
  refine RC.region rfl ?_
  refine RL.ev (.assign rfl) rfl rfl ?_
  refine RL.nil (RC.back ?_)
  refine RC.seq ?_
  refine RC.region rfl ?_
  refine RL.ev (.as (v' := moV p0 m0) (.buildS ze25 pl25 rfl rfl) (by rfl)) rfl rfl ?_
  refine RL.ev (.as (v' := .agg #[.int .i64 1, .int .i64 2, .int .i64 5, .int .i64 7]) (.buildS ze34 pl34 rfl rfl) (by rfl)) rfl rfl ?_
  refine RL.ev (.as (v' := .agg #[.int .i64 1, .int .i64 2, .int .i64 5, .int .i64 8]) (.buildS ze34 pl34 rfl rfl) (by rfl)) rfl rfl ?_
  refine RL.buildSliceN (vs := [_, _]) sl26 _ ze34 rfl ⟨rfl, rfl, trivial⟩ rfl rfl rfl rfl rfl rfl (fun b_8 w_8 e_8 z_8 hb_8 s_8 => ?_)
  have ge_8 := S.le e_8
  have d_h0_b_8 := h0.neNew e_8
  have S := S.trans s_8
  have h0 := h0.sub s_8
  refine RL.call rfl ok13 (c_Run p0 m0 m0_S alOps (some ⟨b_8, 0, none⟩) 2 2 rfl (by decide) w_8 _ h0 (Has.sl0 (rows := alOps.map OpT.cells) hb_8 (by intro r hr; obtain ⟨x, _, rfl⟩ := List.mem_map.1 hr; rfl))) rfl rfl ?_
  rintro _ w1 ⟨s2, hr9⟩
  obtain ⟨_, p', M', a', c', rfl, hs', hF', hup, ho9, _⟩ := hr9.resolve_right (fun e => e.1 hok)
  have S := S.trans s2
  have h0 := h0.sub s2
  have hb_8 := hb_8.sub s2
  have hsl := ho9.sl.1
  obtain ⟨W9, hW9⟩ : ∃ W, W = w1 := ⟨_, rfl⟩
  have S9 : Sub W9 w1 := hW9 ▸ Sub.refl _
  rw [← hW9] at hsl
  refine RL.ev (.move rfl) rfl rfl ?_
  refine RL.ev (.extract rfl rfl) rfl rfl ?_
  refine RL.ev (.extract rfl rfl) rfl rfl ?_
  refine RL.ev (.extract rfl rfl) rfl rfl ?_
  refine RL.alloc ze25 rfl rfl (fun b_1 w_1 e_1 z_1 hb_1 s_1 => ?_)
  have ge_1 := S.le e_1
  have n_8__1 := hb_8.ne e_1
  have d_h0_b_1 := h0.neNew e_1
  have S := S.trans s_1
  have h0 := h0.sub s_1
  have hb_8 := hb_8.sub s_1
  have geS9_1 := S9.le e_1
  have S9 := S9.trans s_1
  refine RL.store sh25 rfl rfl rfl hb_1 (by exact Nat.le_of_ble_eq_true rfl) (by rfl) rfl (fun w3 z3 hb_1 a3 => ?_)
  have S := S.upd a3 ge_1
  have h0 := h0.updD a3 d_h0_b_1
  have hb_8 := hb_8.upd a3 n_8__1
  have S9 := S9.upd a3 geS9_1
  refine RL.ev (.assign rfl) rfl rfl ?_
  refine RL.ev (.assign rfl) rfl rfl ?_
  refine RL.nil (RC.back ?_)
  refine RC.seq ?_
  refine RC.region rfl ?_
  refine RL.ev (.move rfl) rfl rfl ?_
  refine RL.ev (.as (v' := .bool true) (.bin rfl rfl rfl) (congrArg Value.bool (decide_eq_true (rfl)))) rfl rfl ?_
  refine RL.ev (.move rfl) rfl rfl ?_
  refine RL.ev (.move rfl) rfl rfl ?_
  refine RL.ev (.len sl28 rfl) rfl rfl ?_
  refine RL.ev (.as (v' := .bool true) (.bin rfl rfl rfl) (congrArg Value.bool (decide_eq_true (rfl)))) rfl rfl ?_
  refine RL.ev (.pick_t rfl rfl) rfl rfl ?_
  refine RL.ev (.move rfl) rfl rfl ?_
  refine RL.ev (.move rfl) rfl rfl ?_
  refine RL.ev (.indexS sl28 rfl rfl (by rw [List.length_map, runM_len]; decide) (hsl.is (i := 1) (by rw [List.length_map, runM_len]; decide))) rfl rfl ?_
  refine RL.ev (.loadR ((⟨0, 1, 7⟩ : ResT).cells) sh39 rfl ((hsl.sub S9).rowAt (enc := ResT.cells) (i := 1) (x := ⟨0, 1, 7⟩) rfl) rfl) rfl rfl ?_
  refine RL.ev (.as (v' := .agg (⟨0, 1, 7⟩ : ResT).cells.toArray) (.buildS ze39 pl39 rfl rfl) (by rfl)) rfl rfl ?_
  refine RL.ev (.as (v' := .bool true) (.eqS (xs := (⟨0, 1, 7⟩ : ResT).cells) (ys := (⟨0, 1, 7⟩ : ResT).cells) fk39 eg39 sh39 rfl rfl rfl rfl rfl) (congrArg Value.bool (by rfl))) rfl rfl ?_
  refine RL.ev (.pick_t rfl rfl) rfl rfl ?_
  refine RL.ev (.assign rfl) rfl rfl ?_
  refine RL.nil (RC.back ?_)
  refine RC.done (rs := [.tmp 0]) (vs := [_]) rfl rfl ⟨rfl, trivial⟩ ?_
  -- end 1
  exact ⟨rfl, S⟩
end Go.Proofs.Ytjafbffehmombaa
set_option linter.unusedVariables false
set_option linter.unusedSimpArgs false
namespace Go.Proofs.Ytjafbffehmombaa
open Go Go.XL
theorem _root_.Go.XL.FC.yes {P : Program} {f : FuncId} {args : List Value} {w : World} {q : Prop} [Decidable q] (h : FC P f args w (Val (.bool (decide q)) w)) (hq : q) : FC P f args w (Val (.bool true) w) := by rwa [decide_eq_true hq] at h
theorem AnsDo.out {M : Nat → Prop} {w w' : World} {m : Mo} {o : OpT} {u : Value} (h : AnsDo M w w' m o u) : Sub w w' ∧ ∃ p' r1 r2 e M', u = .tuple #[moV p' r1, .agg (r2 : ResT).cells.toArray, .int .i64 e] ∧ MoS p' r1 ∧ Ft M' (fun u => MoR u p' r1) w' ∧ Up M w M' ∧ ((rightM m ∧ okP o) → r1 = (doM m o).1 ∧ r2 = (doM m o).2 ∧ e = 0) ∧ (¬ (rightM m ∧ okP o) → r1 = m0 ∧ r2 = res0 ∧ e = 1) := by
  obtain ⟨s, p', M', h1, h2, h3, h4⟩ := h
  refine ⟨s, p', _, _, _, M', h1, h2, h3, h4, fun g => ?_, fun g => ?_⟩
  · rw [pB_yes g]; exact ⟨rfl, rfl, rfl⟩
  · rw [pB_no g]; exact ⟨rfl, rfl, rfl⟩
theorem eqL_res (r s : ResT) (h : r = s) : eqL r.cells s.cells = true := by subst h; simp [ResT.cells, eqL, eq1]
theorem sameM_of {m n : Mo} (h : m = n) : m.map = n.map ∧ m.tab = n.tab ∧ m.row = n.row ∧ m.heap = n.heap := by subst h; exact ⟨rfl, rfl, rfl, rfl⟩
end Go.Proofs.Ytjafbffehmombaa
set_option linter.unusedVariables false
set_option linter.unusedSimpArgs false
namespace Go.Proofs.Ytjafbffehmombaa
open Go Go.XL
theorem AnsRun.out {M : Nat → Prop} {w w' : World} {m : Mo} {ops : List OpT} {u : Value} (h : AnsRun M w w' m ops u) (hM : ∀ k, M k → k < w.heap.size) : Sub w w' ∧ ∃ p' r1 rs e M' a' c' M2, u = .tuple #[moV p' r1, .slice a' (rs.map ResT.cells).length c', .int .i64 e] ∧ MoS p' r1 ∧ Ft M' (fun u => MoR u p' r1) w' ∧ Up M w M' ∧ Ft M2 (fun u => Sl u a' 3 (rs.map ResT.cells)) w' ∧ Up (fun _ => False) w M2 ∧ (runOk m ops → r1 = (runM m ops).1 ∧ rs = (runM m ops).2 ∧ e = 0) ∧ (¬ runOk m ops → r1 = m0 ∧ rs = [] ∧ e = 1) := by
  obtain ⟨s, ⟨hk, p', M', a', c', h1, h2, h3, h4, h5, h6⟩ | ⟨hk, h1⟩⟩ := h
  · exact ⟨s, p', _, _, _, M', a', c', _, h1, h2, h3, h4, h5.ft.imp (fun u h => h.sl.1), fun k hk => .inr (h5.ge k hk).1, fun _ => ⟨rfl, rfl, rfl⟩, fun g => absurd hk g⟩
  · exact ⟨s, p0, m0, [], 1, M, none, 0, fun _ => False, h1, m0_S, m0_F M (fun k hk => Nat.lt_of_lt_of_le (hM k hk) s.size), Up.refl _ _, ⟨fun k hk => hk.elim, fun u _ => Sl.nil _ _ _⟩, fun k hk => hk.elim, fun g => absurd g hk, fun _ => ⟨rfl, rfl, rfl⟩⟩
end Go.Proofs.Ytjafbffehmombaa
set_option linter.unusedVariables false
set_option linter.unusedSimpArgs false
namespace Go.Proofs.Ytjafbffehmombaa
open Go Go.XL
/-- what a run has come to -/
structure RunO where
  p : Ph
  x : Mo
  rs : List ResT
  e : Int
  M : Nat → Prop
  a : Option Addr
  c : Nat
  N : Nat → Prop
structure RunO.is (q : RunO) (m : Mo) (ops : List OpT) (W : World) : Prop where
  s : MoS q.p q.x
  hF : Ft q.M (fun u => MoR u q.p q.x) W
  hG : Ft q.N (fun u => Sl u q.a 3 (q.rs.map ResT.cells)) W
  yes : runOk m ops → q.x = (runM m ops).1 ∧ q.rs = (runM m ops).2 ∧ q.e = 0
  no : ¬ runOk m ops → q.x = m0 ∧ q.rs = [] ∧ q.e = 1
theorem RunO.is.sub {q : RunO} {m : Mo} {ops : List OpT} {W W' : World} (h : q.is m ops W) (s : Sub W W') : q.is m ops W' := ⟨h.s, h.hF.sub s, h.hG.sub s, h.yes, h.no⟩
theorem RunO.is.upd {q : RunO} {m : Mo} {ops : List OpT} {W W' : World} {b : Nat} (h : q.is m ops W) (a : Agr (· = b) W W') (hb : ∀ k, q.M k → k ≠ b) (hc : ∀ k, q.N k → k ≠ b) : q.is m ops W' := ⟨h.s, h.hF.updD a hb, h.hG.updD a hc, h.yes, h.no⟩
theorem AnsRun.o {M : Nat → Prop} {w w' : World} {m : Mo} {ops : List OpT} {u : Value} (h : AnsRun M w w' m ops u) (hM : ∀ k, M k → k < w.heap.size) : Sub w w' ∧ ∃ q : RunO, u = .tuple #[moV q.p q.x, .slice q.a (q.rs.map ResT.cells).length q.c, .int .i64 q.e] ∧ q.is m ops w' ∧ Up M w q.M ∧ Up (fun _ => False) w q.N := by
  obtain ⟨s, p', r1, rs, e, M', a', c', M2, h1, h2, h3, h4, h5, h6, h7, h8⟩ := h.out hM
  exact ⟨s, ⟨p', r1, rs, e, M', a', c', M2⟩, h1, ⟨h2, h3, h5, h7, h8⟩, h4, h6⟩
set_option maxHeartbeats 2000000 in
theorem law_ModelParts (w : World) (p : Ph) (m : Mo) (hc : m.map.length ≤ p.c1 ∧ m.tab.length ≤ p.c2 ∧ m.row.length ≤ p.c3 ∧ m.heap.length ≤ p.c4) (hR : MoR w p m) (l : List OpT) (pa : Option Addr) (pc : Nat) (hlc : l.length ≤ pc) (hcm : pc ≤ maxLen) (hs : Sl w pa 4 (l.map OpT.cells)) (hli : ∀ x ∈ l, x.ok) (at0 : Int) (wat : (Lit.int .i64 at0).wf = true) :
    FC Try.prog 7 [moV p m, .slice pa l.length pc, .int .i64 at0] w (Val (.bool true) w) := by
  have hRf := fewM_R hR
  have hSf := fewM_S hc
  have hF0 := Ft.of_sub fun u s => hRf.sub s
  obtain ⟨f, hf⟩ : ∃ f, f = fewM m := ⟨_, rfl⟩
  rw [← hf] at hRf hSf hF0
  obtain ⟨k, hk⟩ : ∃ k, k = l.take 40 := ⟨_, rfl⟩
  have hsk : Sl w pa 4 (k.map OpT.cells) := by rw [hk, List.map_take]; exact hs.take _
  have hkl : k.length ≤ 40 ∧ k.length ≤ pc := by rw [hk, List.length_take]; omega
  have hat := wfI wat
  have nm := norm_mod at0 ((k.length + 1 : Nat) : Int) (by omega)
  obtain ⟨j, hj⟩ := Int.eq_ofNat_of_zero_le (Int.emod_nonneg at0 (show ((k.length + 1 : Nat) : Int) ≠ 0 by omega))
  have hjk : j ≤ k.length := by have := Int.emod_lt_of_pos at0 (show 0 < ((k.length + 1 : Nat) : Int) by omega); omega
  rw [hj] at nm
  refine FC.intro Try.func7 rfl Try.ntmps7 rfl ?_
  have S := Sub.refl w
  refine RC.seq ?_
  refine RC.region rfl ?_
  refine RL.box rfl rfl rfl (fun b_3 w_3 e_3 z_3 hb_3 s_3 => ?_)
  have ge_3 := S.le e_3
  have d_hF0_b_3 := hF0.neNew e_3
  have S := S.trans s_3
  have hF0 := hF0.sub s_3
  have hb_3 : Has w_3 b_3 ([.slice p.a1 m.map.length p.c1, .slice p.a2 m.tab.length p.c2, .slice p.a3 m.row.length p.c3, .slice p.a4 m.heap.length p.c4]) _ := hb_3
  refine RL.ev (.assign rfl) rfl rfl ?_
  refine RL.nil (RC.back ?_)
  refine RC.cutx (α := Unit) (fun _ => [(1, .slice pa k.length pc), (2, .int .i64 at0), (3, .pointer (some ⟨b_3, 0, none⟩)), (6, .bool false)]) (fun _ w1 => Has w1 b_3 [.slice p.a1 f.map.length p.c1, .slice p.a2 f.tab.length p.c2, .slice p.a3 f.row.length p.c3, .slice p.a4 f.heap.length p.c4] 25 ∧ Ft (· < w.heap.size) (fun u => MoR u p f) w1 ∧ Sub w w1) ?_ (fun _ w1 hJ => ?_)
  ·
    refine RC.drawD (fun k => k = b_3) [7] w_3.heap.size 9 rfl rfl mxo (fun w2 s3 => ?_)
    have hNN : ∀ k, ((k = b_3) ∨ w_3.heap.size ≤ k) → w.heap.size ≤ k := fun k e => e.elim (fun e => e ▸ ge_3) (fun e => Nat.le_trans S.size e)
    have ent_S := S.size
    have hN0 : ∀ k, w_3.heap.size ≤ k → w.heap.size ≤ k := fun k e => Nat.le_trans S.size e
    have ltD_hF0 := fun k hk => (hF0.ge k hk).2
    have ltD_b_3 := hb_3.lt
    have szD := Nat.le_refl w_3.heap.size
    have S := S.trans s3
    have hF0 := hF0.sub s3
    have hb_3 := hb_3.sub s3
    have szD := Nat.le_trans szD s3.size
    refine RD.takeL 0 rfl (by kernel_rfl) (by kernel_rfl) (by kernel_rfl) (by kernel_rfl) (fun w' s' => .loadR ([.slice p.a1 m.map.length p.c1, .slice p.a2 m.tab.length p.c2, .slice p.a3 m.row.length p.c3, .slice p.a4 m.heap.length p.c4]) sh25 rfl (hb_3.step s' (fun e => Nat.not_le.2 ltD_b_3 e)).row rfl) rfl rfl ?_
    refine RD.take 2 rfl (by kernel_rfl) (by kernel_rfl) (by kernel_rfl) (fun w' s' => .move rfl) rfl rfl ?_
    refine RD.take 3 rfl (by kernel_rfl) (by kernel_rfl) (by kernel_rfl) (fun w' s' => .move rfl) rfl rfl ?_
    refine RD.take 4 rfl (by kernel_rfl) (by kernel_rfl) (by kernel_rfl) (fun w' s' => .len sl26 rfl) rfl rfl ?_
    refine RD.take 5 rfl (by kernel_rfl) (by kernel_rfl) (by kernel_rfl) (fun w' s' => .min2 rfl rfl) rfl rfl ?_
    refine RD.take 6 rfl (by kernel_rfl) (by kernel_rfl) (by kernel_rfl) (fun w' s' => .as (v' := .slice pa k.length pc) (.sliceHi sl26 rfl rfl (by split <;> omega)) (by rw [hk, ← few_len]; rfl)) rfl rfl ?_
    refine RD.all [1] (by kernel_rfl) rfl (RDs.cons rfl ?_ (RDs.nil))
    refine RL.call rfl ok12 (c_few14 p m hc w2) rfl rfl ?_
    rintro _ w4 ⟨rfl, s5⟩
    have S := S.trans s5
    have hF0 := hF0.sub s5
    have hb_3 := hb_3.sub s5
    have szD := Nat.le_trans szD s5.size
    refine RD.back s5.agr ?_
    refine RD.all [7] (by kernel_rfl) rfl (RDs.cons rfl ?_ (RDs.nil))
    refine RL.store sh25 rfl rfl rfl hb_3 (by exact Nat.le_of_ble_eq_true rfl) (by rfl) rfl (fun w6 z6 hb_3 a6 => ?_)
    have S := S.upd a6 ge_3
    have hF0 := hF0.updD a6 d_hF0_b_3
    have szD := Nat.le_trans szD a6.size
    refine RD.backW rfl (a6.mono fun k _ e => e ▸ (.inl (rfl))) ?_
    refine RD.take 8 rfl (by kernel_rfl) (by kernel_rfl) (by kernel_rfl) (fun w' s' => .assign rfl) rfl rfl ?_
    exact RD.done (by kernel_rfl) (fun a ka => ⟨(), ⟨hf ▸ hb_3, hF0, S⟩, ka.keep (keep_of (by repeat (first | exact trivial | refine And.intro rfl ?_)))⟩)
  obtain ⟨hb_3, hF0, S⟩ := hJ
  refine RC.seq ?_
  refine RC.region rfl ?_
  refine RL.ev (.move rfl) rfl rfl ?_
  refine RL.ev (.len sl26 rfl) rfl rfl ?_
  refine RL.ev (.assign rfl) rfl rfl ?_
  refine RL.nil (RC.back ?_)
  refine RC.seq ?_
  refine RC.region rfl ?_
  refine RL.ev (.move rfl) rfl rfl ?_
  refine RL.ev (.move rfl) rfl rfl ?_
  refine RL.ev (.as (.bin rfl rfl rfl) (wi64 (y := ((k.length + 1 : Nat) : Int)) (by omega) (by omega))) rfl rfl ?_
  refine RL.ev (.rem rfl rfl (by omega)) rfl rfl ?_
  refine RL.ev (.move rfl) rfl rfl ?_
  refine RL.ev (.as (.bin rfl rfl rfl) (wi64 (y := at0.tmod ((k.length + 1 : Nat) : Int) + k.length) (by rfl) (by omega))) rfl rfl ?_
  refine RL.ev (.as (.bin rfl rfl rfl) (wi64 (y := at0.tmod ((k.length + 1 : Nat) : Int) + ((k.length + 1 : Nat) : Int)) (by omega) (by omega))) rfl rfl ?_
  refine RL.ev (.move rfl) rfl rfl ?_
  refine RL.ev (.as (.bin rfl rfl rfl) (wi64 (y := ((k.length + 1 : Nat) : Int)) (by omega) (by omega))) rfl rfl ?_
  refine RL.ev (.as (v' := .int .i64 (j : Int)) (.rem rfl rfl (by omega)) (by rw [nm.2.2])) rfl rfl ?_
  refine RL.ev (.assign rfl) rfl rfl ?_
  refine RL.nil (RC.back ?_)
  refine RC.seq ?_
  refine RC.region rfl ?_
  refine RL.ev (.loadR ([.slice p.a1 f.map.length p.c1, .slice p.a2 f.tab.length p.c2, .slice p.a3 f.row.length p.c3, .slice p.a4 f.heap.length p.c4]) sh25 rfl hb_3.row rfl) rfl rfl ?_
  refine RL.ev (.move rfl) rfl rfl ?_
  refine RL.call rfl ok13 (c_Run p f hSf k pa pc _ rfl (by omega) w1 _ hF0 (hsk.sub S)) rfl rfl ?_
  rintro _ w7 h41
  obtain ⟨s8, q1, rfl, hq1, _, _⟩ := h41.o (fun k hk => Nat.lt_of_lt_of_le hk S.size)
  have S := S.trans s8
  have hb_3 := hb_3.sub s8
  have hF0 := hF0.sub s8
  obtain ⟨W1, hW1⟩ : ∃ W, W = w7 := ⟨_, rfl⟩
  have S1 : Sub W1 w7 := hW1 ▸ Sub.refl _
  rw [← hW1] at hq1
  refine RL.ev (.move rfl) rfl rfl ?_
  refine RL.ev (.extract rfl rfl) rfl rfl ?_
  refine RL.ev (.extract rfl rfl) rfl rfl ?_
  refine RL.ev (.extract rfl rfl) rfl rfl ?_
  refine RL.alloc ze25 rfl rfl (fun b_8 w_8 e_8 z_8 hb_8 s_8 => ?_)
  have ge_8 := S.le e_8
  have n_3__8 := hb_3.ne e_8
  have d_hF0_b_8 := hF0.neNew e_8
  have S := S.trans s_8
  have hb_3 := hb_3.sub s_8
  have hF0 := hF0.sub s_8
  have geS1_8 := S1.le e_8
  have S1 := S1.trans s_8
  refine RL.store sh25 rfl rfl rfl hb_8 (by exact Nat.le_of_ble_eq_true rfl) (by rfl) rfl (fun w9 z9 hb_8 a9 => ?_)
  have S := S.upd a9 ge_8
  have hb_3 := hb_3.upd a9 n_3__8
  have hF0 := hF0.updD a9 d_hF0_b_8
  have S1 := S1.upd a9 geS1_8
  have hb_8 : Has w9 b_8 ([.slice q1.p.a1 q1.x.map.length q1.p.c1, .slice q1.p.a2 q1.x.tab.length q1.p.c2, .slice q1.p.a3 q1.x.row.length q1.p.c3, .slice q1.p.a4 q1.x.heap.length q1.p.c4]) _ := hb_8.now (by kernel_rfl)
  refine RL.ev (.assign rfl) rfl rfl ?_
  refine RL.ev (.assign rfl) rfl rfl ?_
  refine RL.nil (RC.back ?_)
  refine RC.cutx (α := RunO × Nat) (fun z => [(1, .slice pa k.length pc), (2, .int .i64 (j : Int)), (6, .bool false), (8, .pointer (some ⟨b_8, 0, none⟩)), (9, .slice q1.a (q1.rs.map ResT.cells).length q1.c), (10, .int .i64 q1.e), (11, .pointer (some ⟨z.2, 0, none⟩)), (12, .slice z.1.a (z.1.rs.map ResT.cells).length z.1.c), (13, .int .i64 z.1.e)]) (fun z w10 => Has w10 b_8 [.slice q1.p.a1 q1.x.map.length q1.p.c1, .slice q1.p.a2 q1.x.tab.length q1.p.c2, .slice q1.p.a3 q1.x.row.length q1.p.c3, .slice q1.p.a4 q1.x.heap.length q1.p.c4] 25 ∧ Has w10 z.2 [.slice z.1.p.a1 z.1.x.map.length z.1.p.c1, .slice z.1.p.a2 z.1.x.tab.length z.1.p.c2, .slice z.1.p.a3 z.1.x.row.length z.1.p.c3, .slice z.1.p.a4 z.1.x.heap.length z.1.p.c4] 25 ∧ b_8 ≠ z.2 ∧ z.1.is f (k.take j) w10 ∧ (∀ k, z.1.M k → k ≠ b_8) ∧ (∀ k, z.1.M k → k ≠ z.2) ∧ Sub W1 w10 ∧ Sub w w10) ?_ (fun z w10 hJ => ?_)
  ·
    refine RC.drawD (fun k => False) [10] w9.heap.size 13 rfl rfl mxo (fun w11 s12 => ?_)
    have hNN : ∀ k, ((False) ∨ w9.heap.size ≤ k) → w.heap.size ≤ k := fun k e => e.elim (fun e => e.elim) (fun e => Nat.le_trans S.size e)
    have ent_S := S.size
    have ent_S1 := S1.size
    have hN0 : ∀ k, w9.heap.size ≤ k → w.heap.size ≤ k := fun k e => Nat.le_trans S.size e
    have ltD_b_3 := hb_3.lt
    have ltD_hF0 := fun k hk => (hF0.ge k hk).2
    have ltD_b_8 := hb_8.lt
    have szD := Nat.le_refl w9.heap.size
    have S := S.trans s12
    have hb_3 := hb_3.sub s12
    have hF0 := hF0.sub s12
    have S1 := S1.trans s12
    have hb_8 := hb_8.sub s12
    have szD := Nat.le_trans szD s12.size
    refine RD.take 0 rfl (by kernel_rfl) (by kernel_rfl) (by kernel_rfl) (fun w' s' => .loadR ([.slice p.a1 f.map.length p.c1, .slice p.a2 f.tab.length p.c2, .slice p.a3 f.row.length p.c3, .slice p.a4 f.heap.length p.c4]) sh25 rfl (hb_3.step s' (fun e => e.elim (fun e => e.elim) (fun e => Nat.not_le.2 ltD_b_3 e))).row rfl) rfl rfl ?_
    refine RD.take 1 rfl (by kernel_rfl) (by kernel_rfl) (by kernel_rfl) (fun w' s' => .move rfl) rfl rfl ?_
    refine RD.take 2 rfl (by kernel_rfl) (by kernel_rfl) (by kernel_rfl) (fun w' s' => .move rfl) rfl rfl ?_
    refine RD.take 3 rfl (by kernel_rfl) (by kernel_rfl) (by kernel_rfl) (fun w' s' => .as (v' := .slice pa (k.take j).length pc) (.sliceHi sl26 rfl rfl (by omega)) (by rw [List.length_take, Nat.min_eq_left hjk]; rfl)) rfl rfl ?_
    refine RD.all [4, 9] (by kernel_rfl) rfl (RDs.cons rfl ?_ (RDs.cons rfl ?_ (RDs.nil)))
    ·
      refine RL.call rfl ok13 (c_Run p f hSf (k.take j) pa pc _ rfl (by rw [List.length_take]; omega) w11 _ hF0 (slTakeM (hsk.sub S) j)) rfl rfl ?_
      rintro _ w13 h50
      obtain ⟨s14, q2, rfl, hq2, up2, up3⟩ := h50.o (fun k hk => Nat.lt_of_lt_of_le hk S.size)
      have hF2 := hq2.hF
      have hG2 := hq2.hG
      have d_hF2_b_3 := upNe up2 d_hF0_b_3 hb_3.lt
      have d_hF2_b_8 := upNe up2 d_hF0_b_8 hb_8.lt
      have d_hG2_b_3 := upNe up3 (fun _ (h : False) => h.elim) hb_3.lt
      have d_hG2_b_8 := upNe up3 (fun _ (h : False) => h.elim) hb_8.lt
      have S := S.trans s14
      have hb_3 := hb_3.sub s14
      have hF0 := hF0.sub s14
      have S1 := S1.trans s14
      have hb_8 := hb_8.sub s14
      have szD := Nat.le_trans szD s14.size
      refine RD.back s14.agr ?_
      refine RD.take 5 rfl (by kernel_rfl) (by kernel_rfl) (by kernel_rfl) (fun w' s' => .move rfl) rfl rfl ?_
      refine RD.take 6 rfl (by kernel_rfl) (by kernel_rfl) (by kernel_rfl) (fun w' s' => .extract rfl rfl) rfl rfl ?_
      refine RD.take 7 rfl (by kernel_rfl) (by kernel_rfl) (by kernel_rfl) (fun w' s' => .extract rfl rfl) rfl rfl ?_
      refine RD.take 8 rfl (by kernel_rfl) (by kernel_rfl) (by kernel_rfl) (fun w' s' => .extract rfl rfl) rfl rfl ?_
      refine RD.all [9] (by kernel_rfl) rfl (RDs.cons rfl ?_ (RDs.nil))
      refine RL.alloc ze25 rfl rfl (fun b_11 w_11 e_11 z_11 hb_11 s_11 => ?_)
      have fr_b_11 : w9.heap.size ≤ b_11 := by rw [e_11]; exact szD
      have ge_11 := S.le e_11
      have n_3__11 := hb_3.ne e_11
      have n_8__11 := hb_8.ne e_11
      have d_hF0_b_11 := hF0.neNew e_11
      have d_hF2_b_11 := hF2.neNew e_11
      have d_hG2_b_11 := hG2.neNew e_11
      have S := S.trans s_11
      have hb_3 := hb_3.sub s_11
      have hF0 := hF0.sub s_11
      have geS1_11 := S1.le e_11
      have S1 := S1.trans s_11
      have hb_8 := hb_8.sub s_11
      have szD := Nat.le_trans szD s_11.size
      have hF2 := hF2.sub s_11
      have hG2 := hG2.sub s_11
      refine RD.back s_11.agr ?_
      refine RD.all [10] (by kernel_rfl) rfl (RDs.cons rfl ?_ (RDs.nil))
      refine RL.store sh25 rfl rfl rfl hb_11 (by exact Nat.le_of_ble_eq_true rfl) (by rfl) rfl (fun w15 z15 hb_11 a15 => ?_)
      have S := S.upd a15 ge_11
      have hb_3 := hb_3.upd a15 n_3__11
      have hF0 := hF0.updD a15 d_hF0_b_11
      have S1 := S1.upd a15 geS1_11
      have hb_8 := hb_8.upd a15 n_8__11
      have szD := Nat.le_trans szD a15.size
      have hF2 := hF2.updD a15 d_hF2_b_11
      have hG2 := hG2.updD a15 d_hG2_b_11
      refine RD.backW rfl (a15.mono fun k _ e => e ▸ (.inr fr_b_11)) ?_
      refine RD.take 11 rfl (by kernel_rfl) (by kernel_rfl) (by kernel_rfl) (fun w' s' => .assign rfl) rfl rfl ?_
      refine RD.take 12 rfl (by kernel_rfl) (by kernel_rfl) (by kernel_rfl) (fun w' s' => .assign rfl) rfl rfl ?_
      exact RD.done (by kernel_rfl) (fun a ka => ⟨(q2, b_11), ⟨hb_8, hb_11, n_8__11, ⟨hq2.s, hF2, hG2, hq2.yes, hq2.no⟩, d_hF2_b_8, d_hF2_b_11, S1, S⟩, ka.keep (keep_of (by repeat (first | exact trivial | refine And.intro rfl ?_)))⟩)
    ·
      refine RL.alloc ze25 rfl rfl (fun b_11 w_11 e_11 z_11 hb_11 s_11 => ?_)
      have fr_b_11 : w9.heap.size ≤ b_11 := by rw [e_11]; exact szD
      have ge_11 := S.le e_11
      have n_3__11 := hb_3.ne e_11
      have n_8__11 := hb_8.ne e_11
      have d_hF0_b_11 := hF0.neNew e_11
      have S := S.trans s_11
      have hb_3 := hb_3.sub s_11
      have hF0 := hF0.sub s_11
      have geS1_11 := S1.le e_11
      have S1 := S1.trans s_11
      have hb_8 := hb_8.sub s_11
      have szD := Nat.le_trans szD s_11.size
      refine RD.back s_11.agr ?_
      refine RD.all [4] (by kernel_rfl) rfl (RDs.cons rfl ?_ (RDs.nil))
      refine RL.call rfl ok13 (c_Run p f hSf (k.take j) pa pc _ rfl (by rw [List.length_take]; omega) w_11 _ hF0 (slTakeM (hsk.sub S) j)) rfl rfl ?_
      rintro _ w16 h50
      obtain ⟨s17, q2, rfl, hq2, up2, up3⟩ := h50.o (fun k hk => Nat.lt_of_lt_of_le hk S.size)
      have hF2 := hq2.hF
      have hG2 := hq2.hG
      have d_hF2_b_3 := upNe up2 d_hF0_b_3 hb_3.lt
      have d_hF2_b_8 := upNe up2 d_hF0_b_8 hb_8.lt
      have d_hF2_b_11 := upNe up2 d_hF0_b_11 hb_11.lt
      have d_hG2_b_3 := upNe up3 (fun _ (h : False) => h.elim) hb_3.lt
      have d_hG2_b_8 := upNe up3 (fun _ (h : False) => h.elim) hb_8.lt
      have d_hG2_b_11 := upNe up3 (fun _ (h : False) => h.elim) hb_11.lt
      have S := S.trans s17
      have hb_3 := hb_3.sub s17
      have hF0 := hF0.sub s17
      have S1 := S1.trans s17
      have hb_8 := hb_8.sub s17
      have szD := Nat.le_trans szD s17.size
      have hb_11 := hb_11.sub s17
      refine RD.back s17.agr ?_
      refine RD.take 5 rfl (by kernel_rfl) (by kernel_rfl) (by kernel_rfl) (fun w' s' => .move rfl) rfl rfl ?_
      refine RD.take 6 rfl (by kernel_rfl) (by kernel_rfl) (by kernel_rfl) (fun w' s' => .extract rfl rfl) rfl rfl ?_
      refine RD.take 7 rfl (by kernel_rfl) (by kernel_rfl) (by kernel_rfl) (fun w' s' => .extract rfl rfl) rfl rfl ?_
      refine RD.take 8 rfl (by kernel_rfl) (by kernel_rfl) (by kernel_rfl) (fun w' s' => .extract rfl rfl) rfl rfl ?_
      refine RD.all [10] (by kernel_rfl) rfl (RDs.cons rfl ?_ (RDs.nil))
      refine RL.store sh25 rfl rfl rfl hb_11 (by exact Nat.le_of_ble_eq_true rfl) (by rfl) rfl (fun w18 z18 hb_11 a18 => ?_)
      have S := S.upd a18 ge_11
      have hb_3 := hb_3.upd a18 n_3__11
      have hF0 := hF0.updD a18 d_hF0_b_11
      have S1 := S1.upd a18 geS1_11
      have hb_8 := hb_8.upd a18 n_8__11
      have szD := Nat.le_trans szD a18.size
      have hF2 := hF2.updD a18 d_hF2_b_11
      have hG2 := hG2.updD a18 d_hG2_b_11
      refine RD.backW rfl (a18.mono fun k _ e => e ▸ (.inr fr_b_11)) ?_
      refine RD.take 11 rfl (by kernel_rfl) (by kernel_rfl) (by kernel_rfl) (fun w' s' => .assign rfl) rfl rfl ?_
      refine RD.take 12 rfl (by kernel_rfl) (by kernel_rfl) (by kernel_rfl) (fun w' s' => .assign rfl) rfl rfl ?_
      exact RD.done (by kernel_rfl) (fun a ka => ⟨(q2, b_11), ⟨hb_8, hb_11, n_8__11, ⟨hq2.s, hF2, hG2, hq2.yes, hq2.no⟩, d_hF2_b_8, d_hF2_b_11, S1, S⟩, ka.keep (keep_of (by repeat (first | exact trivial | refine And.intro rfl ?_)))⟩)
  obtain ⟨q2, b_11⟩ := z
  obtain ⟨hb_8, hb_11, n8_11, hq2, d2_8, d2_11, S1, S⟩ := hJ
  simp only [] at hb_11 n8_11 hq2 d2_8 d2_11
  have hF2 := hq2.hF
  obtain ⟨W2, S2, hq2⟩ : ∃ W, Sub W w10 ∧ q2.is f (k.take j) W := ⟨_, Sub.refl _, hq2⟩
  refine RC.seq ?_
  refine RC.seq ?_
  refine RC.region rfl ?_
  refine RL.ev (.move rfl) rfl rfl ?_
  refine RL.ev (.bin rfl rfl rfl) rfl rfl ?_
  refine RL.nil (RC.back ?_)
  refine RC.cond_dec rfl (fun h19 => ?_) (fun h19 => ?_)
  ·
    have gno : ¬ runOk f k := (fun g => h19 (hq1.yes g).2.2)
    refine RC.seq ?_
    refine RC.region rfl ?_
    refine RL.call rfl ok16 (c_alive14 w10) rfl rfl ?_
    rintro _ w20 ⟨rfl, s21⟩
    have S := S.trans s21
    have S1 := S1.trans s21
    have S2 := S2.trans s21
    have hb_8 := hb_8.sub s21
    have hb_11 := hb_11.sub s21
    have hF2 := hF2.sub s21
    refine RL.ev (.move rfl) rfl rfl ?_
    refine RL.ev (.move rfl) rfl rfl ?_
    refine RL.ev (.as (v' := .bool true) (.bin rfl rfl rfl) (congrArg Value.bool (decide_eq_true ((hq1.no gno).2.2)))) rfl rfl ?_
    refine RL.ev (.pick_t rfl rfl) rfl rfl ?_
    refine RL.ev (.assign rfl) rfl rfl ?_
    refine RL.nil (RC.back ?_)
    refine RC.done (rs := [.tmp 6]) (vs := [_]) rfl rfl ⟨rfl, trivial⟩ ?_
    -- end 1
    exact ⟨rfl, S⟩
  ·
    have gok : runOk f k := (Classical.byContradiction fun g => by have := (hq1.no g).2.2; omega)
    obtain ⟨x1, x2, x3⟩ := hq1.yes gok
    obtain ⟨y1, y2, y3⟩ := hq2.yes (gok.take j)
    have gok2 : runOk q2.x (k.drop j) := ⟨y1 ▸ rightM_run (gok.take j), fun x hx => gok.2 x (List.mem_of_mem_drop hx)⟩
    have hrun : runM f k = ((runM q2.x (k.drop j)).1, q2.rs ++ (runM q2.x (k.drop j)).2) := (by rw [y1, y2, ← runM_app, List.take_append_drop])
    have hl1 : q1.rs.length = k.length := (by rw [x2, runM_len])
    refine RC.skip (RC.back ?_)
    refine RC.cutx (α := RunO × Nat) (fun z => [(6, .bool false), (8, .pointer (some ⟨b_8, 0, none⟩)), (9, .slice q1.a (q1.rs.map ResT.cells).length q1.c), (12, .slice q2.a (q2.rs.map ResT.cells).length q2.c), (13, .int .i64 q2.e), (14, .pointer (some ⟨z.2, 0, none⟩)), (15, .slice z.1.a (z.1.rs.map ResT.cells).length z.1.c), (16, .int .i64 z.1.e)]) (fun z w22 => Has w22 b_8 [.slice q1.p.a1 q1.x.map.length q1.p.c1, .slice q1.p.a2 q1.x.tab.length q1.p.c2, .slice q1.p.a3 q1.x.row.length q1.p.c3, .slice q1.p.a4 q1.x.heap.length q1.p.c4] 25 ∧ Has w22 z.2 [.slice z.1.p.a1 z.1.x.map.length z.1.p.c1, .slice z.1.p.a2 z.1.x.tab.length z.1.p.c2, .slice z.1.p.a3 z.1.x.row.length z.1.p.c3, .slice z.1.p.a4 z.1.x.heap.length z.1.p.c4] 25 ∧ b_8 ≠ z.2 ∧ z.1.is q2.x (k.drop j) w22 ∧ Sub W1 w22 ∧ Sub W2 w22 ∧ Sub w w22) ?_ (fun z w22 hJ => ?_)
    ·
      refine RC.drawD (fun k => False) [10] w10.heap.size 13 rfl rfl mxo (fun w23 s24 => ?_)
      have hNN : ∀ k, ((False) ∨ w10.heap.size ≤ k) → w.heap.size ≤ k := fun k e => e.elim (fun e => e.elim) (fun e => Nat.le_trans S.size e)
      have ent_S := S.size
      have ent_S1 := S1.size
      have ent_S2 := S2.size
      have hN0 : ∀ k, w10.heap.size ≤ k → w.heap.size ≤ k := fun k e => Nat.le_trans S.size e
      have ltD_b_8 := hb_8.lt
      have ltD_b_11 := hb_11.lt
      have ltD_hF2 := fun k hk => (hF2.ge k hk).2
      have szD := Nat.le_refl w10.heap.size
      have S := S.trans s24
      have S1 := S1.trans s24
      have S2 := S2.trans s24
      have hb_8 := hb_8.sub s24
      have hb_11 := hb_11.sub s24
      have hF2 := hF2.sub s24
      have szD := Nat.le_trans szD s24.size
      refine RD.take 0 rfl (by kernel_rfl) (by kernel_rfl) (by kernel_rfl) (fun w' s' => .loadR ([.slice q2.p.a1 q2.x.map.length q2.p.c1, .slice q2.p.a2 q2.x.tab.length q2.p.c2, .slice q2.p.a3 q2.x.row.length q2.p.c3, .slice q2.p.a4 q2.x.heap.length q2.p.c4]) sh25 rfl (hb_11.step s' (fun e => e.elim (fun e => e.elim) (fun e => Nat.not_le.2 ltD_b_11 e))).row rfl) rfl rfl ?_
      refine RD.take 1 rfl (by kernel_rfl) (by kernel_rfl) (by kernel_rfl) (fun w' s' => .move rfl) rfl rfl ?_
      refine RD.take 2 rfl (by kernel_rfl) (by kernel_rfl) (by kernel_rfl) (fun w' s' => .move rfl) rfl rfl ?_
      refine RD.take 3 rfl (by kernel_rfl) (by kernel_rfl) (by kernel_rfl) (fun w' s' => .as (v' := .slice (if pc = j then pa else pa.map (·.add (j * 4))) (k.drop j).length (pc - j)) (.sliceLo sl26 rfl rfl (by omega)) (by rw [List.length_drop]; rfl)) rfl rfl ?_
      refine RD.all [4, 9] (by kernel_rfl) rfl (RDs.cons rfl ?_ (RDs.cons rfl ?_ (RDs.nil)))
      ·
        refine RL.call rfl ok13 (c_Run q2.p q2.x hq2.s (k.drop j) _ (pc - j) _ rfl (by rw [List.length_drop]; omega) w23 q2.M hF2 (slDropM (hsk.sub S) j hkl.2)) rfl rfl ?_
        rintro _ w25 h66
        obtain ⟨s26, q3, rfl, hq3, up2, up3⟩ := h66.o hF2.lt
        have hF3 := hq3.hF
        have hG3 := hq3.hG
        have d_hF3_b_8 := upNe up2 d2_8 hb_8.lt
        have d_hF3_b_11 := upNe up2 d2_11 hb_11.lt
        have d_hG3_b_8 := upNe up3 (fun _ (h : False) => h.elim) hb_8.lt
        have d_hG3_b_11 := upNe up3 (fun _ (h : False) => h.elim) hb_11.lt
        have S := S.trans s26
        have S1 := S1.trans s26
        have S2 := S2.trans s26
        have hb_8 := hb_8.sub s26
        have hb_11 := hb_11.sub s26
        have hF2 := hF2.sub s26
        have szD := Nat.le_trans szD s26.size
        refine RD.back s26.agr ?_
        refine RD.take 5 rfl (by kernel_rfl) (by kernel_rfl) (by kernel_rfl) (fun w' s' => .move rfl) rfl rfl ?_
        refine RD.take 6 rfl (by kernel_rfl) (by kernel_rfl) (by kernel_rfl) (fun w' s' => .extract rfl rfl) rfl rfl ?_
        refine RD.take 7 rfl (by kernel_rfl) (by kernel_rfl) (by kernel_rfl) (fun w' s' => .extract rfl rfl) rfl rfl ?_
        refine RD.take 8 rfl (by kernel_rfl) (by kernel_rfl) (by kernel_rfl) (fun w' s' => .extract rfl rfl) rfl rfl ?_
        refine RD.all [9] (by kernel_rfl) rfl (RDs.cons rfl ?_ (RDs.nil))
        refine RL.alloc ze25 rfl rfl (fun b_14 w_14 e_14 z_14 hb_14 s_14 => ?_)
        have fr_b_14 : w10.heap.size ≤ b_14 := by rw [e_14]; exact szD
        have ge_14 := S.le e_14
        have n_8__14 := hb_8.ne e_14
        have n_11__14 := hb_11.ne e_14
        have d_hF2_b_14 := hF2.neNew e_14
        have d_hF3_b_14 := hF3.neNew e_14
        have d_hG3_b_14 := hG3.neNew e_14
        have S := S.trans s_14
        have geS1_14 := S1.le e_14
        have S1 := S1.trans s_14
        have geS2_14 := S2.le e_14
        have S2 := S2.trans s_14
        have hb_8 := hb_8.sub s_14
        have hb_11 := hb_11.sub s_14
        have hF2 := hF2.sub s_14
        have szD := Nat.le_trans szD s_14.size
        have hF3 := hF3.sub s_14
        have hG3 := hG3.sub s_14
        refine RD.back s_14.agr ?_
        refine RD.all [10] (by kernel_rfl) rfl (RDs.cons rfl ?_ (RDs.nil))
        refine RL.store sh25 rfl rfl rfl hb_14 (by exact Nat.le_of_ble_eq_true rfl) (by rfl) rfl (fun w27 z27 hb_14 a27 => ?_)
        have S := S.upd a27 ge_14
        have S1 := S1.upd a27 geS1_14
        have S2 := S2.upd a27 geS2_14
        have hb_8 := hb_8.upd a27 n_8__14
        have hb_11 := hb_11.upd a27 n_11__14
        have hF2 := hF2.updD a27 d_hF2_b_14
        have szD := Nat.le_trans szD a27.size
        have hF3 := hF3.updD a27 d_hF3_b_14
        have hG3 := hG3.updD a27 d_hG3_b_14
        refine RD.backW rfl (a27.mono fun k _ e => e ▸ (.inr fr_b_14)) ?_
        refine RD.take 11 rfl (by kernel_rfl) (by kernel_rfl) (by kernel_rfl) (fun w' s' => .assign rfl) rfl rfl ?_
        refine RD.take 12 rfl (by kernel_rfl) (by kernel_rfl) (by kernel_rfl) (fun w' s' => .assign rfl) rfl rfl ?_
        exact RD.done (by kernel_rfl) (fun a ka => ⟨(q3, b_14), ⟨hb_8, hb_14, n_8__14, ⟨hq3.s, hF3, hG3, hq3.yes, hq3.no⟩, S1, S2, S⟩, ka.keep (keep_of (by repeat (first | exact trivial | refine And.intro rfl ?_)))⟩)
      ·
        refine RL.alloc ze25 rfl rfl (fun b_14 w_14 e_14 z_14 hb_14 s_14 => ?_)
        have fr_b_14 : w10.heap.size ≤ b_14 := by rw [e_14]; exact szD
        have ge_14 := S.le e_14
        have n_8__14 := hb_8.ne e_14
        have n_11__14 := hb_11.ne e_14
        have d_hF2_b_14 := hF2.neNew e_14
        have S := S.trans s_14
        have geS1_14 := S1.le e_14
        have S1 := S1.trans s_14
        have geS2_14 := S2.le e_14
        have S2 := S2.trans s_14
        have hb_8 := hb_8.sub s_14
        have hb_11 := hb_11.sub s_14
        have hF2 := hF2.sub s_14
        have szD := Nat.le_trans szD s_14.size
        refine RD.back s_14.agr ?_
        refine RD.all [4] (by kernel_rfl) rfl (RDs.cons rfl ?_ (RDs.nil))
        refine RL.call rfl ok13 (c_Run q2.p q2.x hq2.s (k.drop j) _ (pc - j) _ rfl (by rw [List.length_drop]; omega) w_14 q2.M hF2 (slDropM (hsk.sub S) j hkl.2)) rfl rfl ?_
        rintro _ w28 h66
        obtain ⟨s29, q3, rfl, hq3, up2, up3⟩ := h66.o hF2.lt
        have hF3 := hq3.hF
        have hG3 := hq3.hG
        have d_hF3_b_8 := upNe up2 d2_8 hb_8.lt
        have d_hF3_b_11 := upNe up2 d2_11 hb_11.lt
        have d_hF3_b_14 := upNe up2 d_hF2_b_14 hb_14.lt
        have d_hG3_b_8 := upNe up3 (fun _ (h : False) => h.elim) hb_8.lt
        have d_hG3_b_11 := upNe up3 (fun _ (h : False) => h.elim) hb_11.lt
        have d_hG3_b_14 := upNe up3 (fun _ (h : False) => h.elim) hb_14.lt
        have S := S.trans s29
        have S1 := S1.trans s29
        have S2 := S2.trans s29
        have hb_8 := hb_8.sub s29
        have hb_11 := hb_11.sub s29
        have hF2 := hF2.sub s29
        have szD := Nat.le_trans szD s29.size
        have hb_14 := hb_14.sub s29
        refine RD.back s29.agr ?_
        refine RD.take 5 rfl (by kernel_rfl) (by kernel_rfl) (by kernel_rfl) (fun w' s' => .move rfl) rfl rfl ?_
        refine RD.take 6 rfl (by kernel_rfl) (by kernel_rfl) (by kernel_rfl) (fun w' s' => .extract rfl rfl) rfl rfl ?_
        refine RD.take 7 rfl (by kernel_rfl) (by kernel_rfl) (by kernel_rfl) (fun w' s' => .extract rfl rfl) rfl rfl ?_
        refine RD.take 8 rfl (by kernel_rfl) (by kernel_rfl) (by kernel_rfl) (fun w' s' => .extract rfl rfl) rfl rfl ?_
        refine RD.all [10] (by kernel_rfl) rfl (RDs.cons rfl ?_ (RDs.nil))
        refine RL.store sh25 rfl rfl rfl hb_14 (by exact Nat.le_of_ble_eq_true rfl) (by rfl) rfl (fun w30 z30 hb_14 a30 => ?_)
        have S := S.upd a30 ge_14
        have S1 := S1.upd a30 geS1_14
        have S2 := S2.upd a30 geS2_14
        have hb_8 := hb_8.upd a30 n_8__14
        have hb_11 := hb_11.upd a30 n_11__14
        have hF2 := hF2.updD a30 d_hF2_b_14
        have szD := Nat.le_trans szD a30.size
        have hF3 := hF3.updD a30 d_hF3_b_14
        have hG3 := hG3.updD a30 d_hG3_b_14
        refine RD.backW rfl (a30.mono fun k _ e => e ▸ (.inr fr_b_14)) ?_
        refine RD.take 11 rfl (by kernel_rfl) (by kernel_rfl) (by kernel_rfl) (fun w' s' => .assign rfl) rfl rfl ?_
        refine RD.take 12 rfl (by kernel_rfl) (by kernel_rfl) (by kernel_rfl) (fun w' s' => .assign rfl) rfl rfl ?_
        exact RD.done (by kernel_rfl) (fun a ka => ⟨(q3, b_14), ⟨hb_8, hb_14, n_8__14, ⟨hq3.s, hF3, hG3, hq3.yes, hq3.no⟩, S1, S2, S⟩, ka.keep (keep_of (by repeat (first | exact trivial | refine And.intro rfl ?_)))⟩)
    obtain ⟨q3, b_14⟩ := z
    obtain ⟨hb_8, hb_14, n8_14, hq3, S1, S2, S⟩ := hJ
    simp only [] at hb_14 n8_14 hq3
    obtain ⟨W3, S3, hq3, hW3⟩ : ∃ W, Sub W w22 ∧ q3.is q2.x (k.drop j) W ∧ W = w22 := ⟨_, Sub.refl _, hq3, rfl⟩
    have zw1 := S1.size
    have zw2 := S2.size
    have zw := S.size
    rw [← hW3] at zw zw1 zw2
    obtain ⟨z1, z2, z3⟩ := hq3.yes gok2
    rw [← z1, ← z2] at hrun
    have hx13 : q1.x = q3.x := (by rw [x1, hrun])
    have hrs : q1.rs = q2.rs ++ q3.rs := (by rw [x2, hrun])
    have hlen : q1.rs.length = q2.rs.length + q3.rs.length := (by rw [hrs, List.length_append])
    refine RC.seq ?_
    refine RC.seq ?_
    refine RC.region rfl ?_
    refine RL.ev (.move rfl) rfl rfl ?_
    refine RL.ev (.as (v' := .bool false) (.bin rfl rfl rfl) (congrArg Value.bool (decide_eq_false (fun h => h y3)))) rfl rfl ?_
    refine RL.ev (.move rfl) rfl rfl ?_
    refine RL.ev (.move rfl) rfl rfl ?_
    refine RL.ev (.as (v' := .bool false) (.bin rfl rfl rfl) (congrArg Value.bool (decide_eq_false (fun h => h z3)))) rfl rfl ?_
    refine RL.ev (.pick_f rfl rfl) rfl rfl ?_
    refine RL.ev (.move rfl) rfl rfl ?_
    refine RL.ev (.move rfl) rfl rfl ?_
    refine RL.ev (.len sl28 rfl) rfl rfl ?_
    refine RL.ev (.move rfl) rfl rfl ?_
    refine RL.ev (.len sl28 rfl) rfl rfl ?_
    refine RL.ev (.as (.bin rfl rfl rfl) (wi64 (y := ((q2.rs.length + q3.rs.length : Nat) : Int)) (by simp only [List.length_map]; omega) (by omega))) rfl rfl ?_
    refine RL.ev (.move rfl) rfl rfl ?_
    refine RL.ev (.len sl28 rfl) rfl rfl ?_
    refine RL.ev (.as (v' := .bool false) (.bin rfl rfl rfl) (congrArg Value.bool (decide_eq_false (fun h => h (by rw [List.length_map, hlen]))))) rfl rfl ?_
    refine RL.ev (.pick_f rfl rfl) rfl rfl ?_
    refine RL.ev (.move rfl) rfl rfl ?_
    refine RL.ev (.loadR ([.slice q1.p.a1 q1.x.map.length q1.p.c1, .slice q1.p.a2 q1.x.tab.length q1.p.c2, .slice q1.p.a3 q1.x.row.length q1.p.c3, .slice q1.p.a4 q1.x.heap.length q1.p.c4]) sh25 rfl hb_8.row rfl) rfl rfl ?_
    refine RL.ev (.loadR ([.slice q3.p.a1 q3.x.map.length q3.p.c1, .slice q3.p.a2 q3.x.tab.length q3.p.c2, .slice q3.p.a3 q3.x.row.length q3.p.c3, .slice q3.p.a4 q3.x.heap.length q3.p.c4]) sh25 rfl hb_14.row rfl) rfl rfl ?_
    refine RL.call rfl ok17 (FC.yes (c_refMSame q1.p q1.x hq1.s q3.p q3.x hq3.s w22 (hq1.hF.sub S1).now (hq3.hF.sub S3).now) (sameM_of hx13)) rfl rfl ?_
    rintro _ w31 ⟨rfl, s32⟩
    have S := S.trans s32
    have S1 := S1.trans s32
    have S2 := S2.trans s32
    have S3 := S3.trans s32
    have hb_8 := hb_8.sub s32
    have hb_14 := hb_14.sub s32
    refine RL.ev (.not rfl) rfl rfl ?_
    refine RL.ev (.pick_f rfl rfl) rfl rfl ?_
    refine RL.ev (.move rfl) rfl rfl ?_
    refine RL.call rfl ok16 (c_alive14 w31) rfl rfl ?_
    rintro _ w33 ⟨rfl, s34⟩
    have S := S.trans s34
    have S1 := S1.trans s34
    have S2 := S2.trans s34
    have S3 := S3.trans s34
    have hb_8 := hb_8.sub s34
    have hb_14 := hb_14.sub s34
    refine RL.ev (.not rfl) rfl rfl ?_
    refine RL.ev (.pick_f rfl rfl) rfl rfl ?_
    refine RL.nil (RC.back ?_)
    refine RC.cond_f rfl ?_
    refine RC.skip (RC.back ?_)
    refine RC.seq ?_
    refine RC.seq ?_
    refine RC.region rfl ?_
    refine RL.buildSlice0 sl28 rfl rfl (fun b_96 w_96 e_96 z_96 hb_96 s_96 => ?_)
    have ge_96 := S.le e_96
    have n_8__96 := hb_8.ne e_96
    have n_14__96 := hb_14.ne e_96
    have S := S.trans s_96
    have geS1_96 := S1.le e_96
    have S1 := S1.trans s_96
    have geS2_96 := S2.le e_96
    have S2 := S2.trans s_96
    have geS3_96 := S3.le e_96
    have S3 := S3.trans s_96
    have hb_8 := hb_8.sub s_96
    have hb_14 := hb_14.sub s_96
    refine RL.ev (.move rfl) rfl rfl ?_
    have sz_98 := S.size
    have szS1_98 := S1.size
    have szS2_98 := S2.size
    have szS3_98 := S3.size
    have ltb_8_98 := hb_8.lt
    have ltb_14_98 := hb_14.lt
    have ltb_96_98 := hb_96.lt
    refine RL.append2 (base := W3.heap.size) (rows := []) (news := q2.rs.map ResT.cells) sl28 ze39 rfl rfl rfl rfl (.inl (Ows.lit0 hb_96 (by omega))) (hq2.hG.sub S2).now (by (try simp only [List.length_map]); first | done | rfl) (by intro r hr; obtain ⟨x, _, rfl⟩ := List.mem_map.1 hr; rfl) (by rw [List.all_eq_true]; intro r hr; obtain ⟨x, _, rfl⟩ := List.mem_map.1 hr; rfl) (by (try simp only [List.length_map, List.length_nil, List.length_append, List.length_cons]); omega) (by (try simp only [List.length_map, List.length_nil, List.length_append, List.length_cons]); omega) (by omega) rfl rfl (fun v_98 w_98 hc_98 ho_98 ag_98 ob_98 => ?_)
    have o98 := ho_98 (.inr (Ows.lit0 hb_96 (by omega)))
    have d_o98_b_8 := obNe ob_98 (fun k hk e => n_8__96.symm ((obLit hk).trans e)) hb_8.lt
    have d_o98_b_14 := obNe ob_98 (fun k hk e => n_14__96.symm ((obLit hk).trans e)) hb_14.lt
    have S := S.agrN ag_98 (fun k e => Nat.le_trans (by omega) e.2)
    have S1 := S1.agrN ag_98 (fun k e => Nat.le_trans (by omega) e.2)
    have S2 := S2.agrN ag_98 (fun k e => Nat.le_trans (by omega) e.2)
    have S3 := S3.agrN ag_98 (fun k e => Nat.le_trans (by omega) e.2)
    have hb_8 := hb_8.step ag_98 (fun e => n_8__96.symm (obLit e.1))
    have hb_14 := hb_14.step ag_98 (fun e => n_14__96.symm (obLit e.1))
    obtain ⟨a_98, c_98, rfl, k_98⟩ := o98.form
    refine RL.ev (.move rfl) rfl rfl ?_
    have sz_100 := S.size
    have szS1_100 := S1.size
    have szS2_100 := S2.size
    have szS3_100 := S3.size
    have ltb_8_100 := hb_8.lt
    have ltb_14_100 := hb_14.lt
    refine RL.append2 (base := W3.heap.size) (rows := q2.rs.map ResT.cells) (news := q3.rs.map ResT.cells) sl28 ze39 rfl rfl rfl rfl (.inl o98) (hq3.hG.sub S3).now (by (try simp only [List.length_map]); first | done | rfl) (by intro r hr; obtain ⟨x, _, rfl⟩ := List.mem_map.1 hr; rfl) (by rw [List.all_eq_true]; intro r hr; obtain ⟨x, _, rfl⟩ := List.mem_map.1 hr; rfl) (by (try simp only [List.length_map, List.length_nil, List.length_append, List.length_cons]); omega) (by (try simp only [List.length_map, List.length_nil, List.length_append, List.length_cons]); omega) (by omega) rfl rfl (fun v_100 w_100 hc_100 ho_100 ag_100 ob_100 => ?_)
    have o100 := ho_100 (.inr o98)
    have d_o100_b_8 := obNe ob_100 d_o98_b_8 hb_8.lt
    have d_o100_b_14 := obNe ob_100 d_o98_b_14 hb_14.lt
    have S := S.agrN ag_100 (fun k e => Nat.le_trans (by omega) e.2)
    have S1 := S1.agrN ag_100 (fun k e => Nat.le_trans (by omega) e.2)
    have S2 := S2.agrN ag_100 (fun k e => Nat.le_trans (by omega) e.2)
    have S3 := S3.agrN ag_100 (fun k e => Nat.le_trans (by omega) e.2)
    have hb_8 := hb_8.step ag_100 (fun e => d_o98_b_8 _ e.1 rfl)
    have hb_14 := hb_14.step ag_100 (fun e => d_o98_b_14 _ e.1 rfl)
    obtain ⟨a_100, c_100, rfl, k_100⟩ := o100.form
    rw [← List.map_append, ← hrs] at o100 d_o100_b_8 d_o100_b_14
    rw [← List.map_append, ← hrs]
    obtain ⟨W4, S4, h100⟩ : ∃ W, Sub W w_100 ∧ Sl W a_100 3 (q1.rs.map ResT.cells) := ⟨_, Sub.refl _, o100.sl.1⟩
    refine RL.ev (.as (v' := .int .i64 (q1.rs.length : Int)) (.len sl28 rfl) (by rw [List.length_map])) rfl rfl ?_
    refine RL.ev (.move rfl) rfl rfl ?_
    refine RL.nil (RC.back ?_)
    refine RC.block ?_
    refine RC.loop (α := Nat) (fun i => [(6, .bool false), (9, .slice q1.a (q1.rs.map ResT.cells).length q1.c), (100, .slice a_100 (q1.rs.map ResT.cells).length c_100), (101, .int .i64 (q1.rs.length : Int)), (102, .int .i64 (i : Int))]) (fun i w35 => i ≤ q1.rs.length ∧ Sub W1 w35 ∧ Sub W4 w35 ∧ Sub w w35) (fun i => q1.rs.length - i) 0 (keep_of (by repeat (first | exact trivial | refine And.intro rfl ?_))) (⟨Nat.zero_le _, S1, S4, S⟩) (fun i w35 hJ => ?_)
    obtain ⟨hi, S1, S4, S⟩ := hJ
    refine RC.seq ?_
    refine RC.region rfl ?_
    refine RL.ev (.bin rfl rfl rfl) rfl rfl ?_
    refine RL.nil (RC.back ?_)
    refine RC.seq ?_
    refine RC.cond_dec rfl (fun h36 => ?_) (fun h36 => ?_)
    ·
      obtain ⟨r, hr⟩ := getSome (l := q1.rs) (i := i) (by omega)
      refine RC.skip (RC.back ?_)
      refine RC.seq ?_
      refine RC.block ?_
      refine RC.seq ?_
      refine RC.region rfl ?_
      refine RL.ev (.move rfl) rfl rfl ?_
      refine RL.ev (.indexS sl28 rfl rfl (by simp only [List.length_map]; omega) (h100.is (i := 0) (by simp only [List.length_map, List.length_cons, List.length_nil]; omega))) rfl rfl ?_
      refine RL.ev (.loadR (r.cells) sh39 rfl ((h100.sub S4).rowAt (enc := ResT.cells) (i := i) hr) rfl) rfl rfl ?_
      refine RL.alloc ze39 rfl rfl (fun b_18 w_18 e_18 z_18 hb_18 s_18 => ?_)
      have ge_18 := S.le e_18
      have S := S.trans s_18
      have geS1_18 := S1.le e_18
      have S1 := S1.trans s_18
      have geS4_18 := S4.le e_18
      have S4 := S4.trans s_18
      refine RL.ev (.assign rfl) rfl rfl ?_
      refine RL.store sh39 rfl rfl rfl hb_18 (by exact Nat.le_of_ble_eq_true rfl) (by rfl) rfl (fun w37 z37 hb_18 a37 => ?_)
      have S := S.upd a37 ge_18
      have S1 := S1.upd a37 geS1_18
      have S4 := S4.upd a37 geS4_18
      have hb_18 : Has w37 b_18 (r.cells) _ := hb_18.now (by kernel_rfl)
      refine RL.nil (RC.back ?_)
      refine RC.seq ?_
      refine RC.draw rfl mxo (by kernel_rfl) ?_
      refine RQ.ev (.loadR (r.cells) sh39 rfl hb_18.row rfl) rfl rfl ?_
      refine RQ.ev (.move rfl) rfl rfl ?_
      refine RQ.ev (.move rfl) rfl rfl ?_
      refine RQ.ev (.indexS sl28 rfl rfl (by simp only [List.length_map]; omega) (hq1.hG.now.is (i := 0) (by simp only [List.length_map]; omega))) rfl rfl ?_
      refine RQ.ev (.loadR (r.cells) sh39 rfl ((hq1.hG.sub S1).now.rowAt (enc := ResT.cells) (i := i) hr) rfl) rfl rfl ?_
      refine RQ.ev (.as (v' := .bool false) (.neS (xs := r.cells) (ys := r.cells) fk39 eg39 sh39 rfl rfl rfl rfl rfl) (congrArg Value.bool (by rw [eqL_res _ _ rfl]; rfl))) rfl rfl ?_
      refine RQ.nil (fun w38 s39 => RC.back ?_)
      have S := S.trans s39
      have S1 := S1.trans s39
      have S4 := S4.trans s39
      have hb_18 := hb_18.sub s39
      refine RC.cond_f rfl ?_
      refine RC.skip (RC.back ?_)
      refine RC.region rfl ?_
      refine RL.ev (.as (.bin rfl rfl rfl) (wi64 (y := ((i + 1 : Nat) : Int)) (by omega) (by omega))) rfl rfl ?_
      refine RL.ev (.move rfl) rfl rfl ?_
      exact RL.nil (fun a ka => ⟨i + 1, ⟨by omega, S1, S4, S⟩, by omega, ka.keep (keep_of (by repeat (first | exact trivial | refine And.intro rfl ?_)))⟩)
    ·
      refine RC.exit rfl (RC.back ?_)
      refine RC.seq ?_
      refine RC.region rfl ?_
      refine RL.ev (.assign rfl) rfl rfl ?_
      refine RL.nil (RC.back ?_)
      refine RC.done (rs := [.tmp 6]) (vs := [_]) rfl rfl ⟨rfl, trivial⟩ ?_
      -- end 2
      exact ⟨rfl, S⟩
end Go.Proofs.Ytjafbffehmombaa
