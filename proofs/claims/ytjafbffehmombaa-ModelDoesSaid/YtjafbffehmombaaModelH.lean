/-
  The package model: operations on a heap.
-/
import Derived.Test.YtjafbffehmombaaModelV
set_option linter.unusedVariables false
set_option linter.unusedSimpArgs false
namespace Go.Proofs.Ytjafbffehmombaa
open Go Go.XL

def whN (l : List It) (x : It) : Nat := (l.takeWhile fun z => decide (lessP z x)).length
theorem whN_of {x : It} : ∀ {l : List It} {n : Nat}, n ≤ l.length → (∀ k z, k < n → l[k]? = some z → lessP z x) → (∀ z, l[n]? = some z → ¬ lessP z x) → whN l x = n
  | [], n, hn, _, _ => by simp at hn; subst hn; rfl
  | y :: l, 0, _, _, h2 => by
    have := h2 y rfl
    unfold whN
    rw [List.takeWhile_cons, decide_eq_false this]; rfl
  | y :: l, n + 1, hn, h1, h2 => by
    have h0 := h1 0 y (by omega) rfl
    have ih := whN_of (l := l) (n := n) (by simpa using hn) (fun k z hk hz => h1 (k + 1) z (by omega) hz) (fun z hz => h2 z hz)
    unfold whN at ih ⊢
    rw [List.takeWhile_cons, decide_eq_true h0]
    simp only [if_true, List.length_cons, ih]
def heapM (l : List It) (o : OpT) : List It × ResT :=
  if o.kind = 6 then (l, ⟨0, l.length, 0⟩)
  else if o.kind = 2 then
    if 200 ≤ l.length then (l, ⟨5, 0, 0⟩) else (l.take (whN l ⟨o.a, o.b⟩) ++ ⟨o.a, o.b⟩ :: l.drop (whN l ⟨o.a, o.b⟩), ⟨0, 0, 0⟩)
  else if l.length = 0 then (l, ⟨3, 0, 0⟩)
  else (if o.kind = 3 then l.drop 1 else l, ⟨0, (valAt l 0).k, (valAt l 0).v⟩)
def SrtH (l : List It) : Prop := ∀ i x y, l[i]? = some x → l[i + 1]? = some y → ¬ lessP y x
theorem SrtH.le {l : List It} (h : SrtH l) : ∀ (d i : Nat) (x y : It), l[i]? = some x → l[i + d]? = some y → ¬ lessP y x
  | 0, i, x, y, hx, hy => by rw [Nat.add_zero, hx] at hy; cases hy; unfold lessP; omega
  | d + 1, i, x, y, hx, hy => by
    obtain ⟨z, hz⟩ := getSome (l := l) (i := i + d) (by have := lt_of_get hy; omega)
    have h1 := SrtH.le h d i x z hx hz
    have h2 := h (i + d) z y hz hy
    unfold lessP at *
    omega
theorem cmpIt_neg {x y : It} : cmpIt x y < 0 ↔ lessP x y := by
  rcases cmpIt_cases x y with ⟨h, e⟩ | ⟨h, e⟩ | ⟨h, e⟩
  · rw [e]; exact ⟨fun _ => h, fun _ => by decide⟩
  · rw [e]; exact ⟨fun h => absurd h (by decide), fun h2 => by unfold lessP at *; omega⟩
  · subst h; rw [e]; exact ⟨fun h => absurd h (by decide), fun h2 => by unfold lessP at *; omega⟩
theorem c_heap (l : List It) (a : Option Addr) (c m : Nat) (hm : m = l.length) (hs : SrtH l) (hl200 : l.length ≤ 200) (hc : l.length ≤ c) (o : OpT) (hok : okP o) (w : World) (M : Nat → Prop) (hF : Ft M (fun u => Sl u a 2 (l.map It.cells)) w) :
    FC Try.prog 67 [.slice a m c, .agg o.cells.toArray] w (fun u w' => AnsP M w w' (heapM l o) u) := by
  subst hm
  have hl := hF.now
  have hk := hok.1
  have hkk : 1 ≤ o.kind ∧ o.kind ≤ 6 := ⟨hk.2.2.1, hk.2.2.2.1⟩
  refine FC.intro Try.func67 rfl Try.ntmps67 rfl ?_
  have S := Sub.refl w
  refine RC.seq ?_
  refine RC.region rfl ?_
  refine RL.box rfl rfl rfl (fun b_3 w_3 e_3 z_3 hb_3 s_3 => ?_)
  have ge_3 := S.le e_3
  have S := S.trans s_3
  have hb_3 : Has w_3 b_3 ([.int .i64 o.box, .int .i64 o.kind, .int .i64 o.a, .int .i64 o.b]) _ := hb_3
  refine RL.ev (.assign rfl) rfl rfl ?_
  refine RL.alloc ze39 rfl rfl (fun b_5 w_5 e_5 z_5 hb_5 s_5 => ?_)
  have ge_5 := S.le e_5
  have n_3__5 := hb_3.ne e_5
  have S := S.trans s_5
  have hb_3 := hb_3.sub s_5
  refine RL.nil (RC.back ?_)
  refine RC.seq ?_
  refine RC.block ?_
  refine RC.seq ?_
  refine RC.region rfl ?_
  refine RL.ev (.field0 fo34_1 rfl) rfl rfl ?_
  refine RL.ev (.load1 sh3 rfl (hb_3.cell rfl)) rfl rfl ?_
  refine RL.ev (.bin rfl rfl rfl) rfl rfl ?_
  refine RL.ev (.assign rfl) rfl rfl ?_
  refine RL.nil (RC.back ?_)
  refine RC.cond_dec rfl (fun h1 => ?_) (fun h1 => ?_)
  ·
    have k10 := h1
    refine RC.seq ?_
    refine RC.region rfl ?_
    refine RL.ev (.move rfl) rfl rfl ?_
    refine RL.ev (.move rfl) rfl rfl ?_
    refine RL.ev (.len sl22 rfl) rfl rfl ?_
    refine RL.ev (.buildS ze39 pl39 rfl rfl) rfl rfl ?_
    refine RL.ev (.assign rfl) rfl rfl ?_
    refine RL.store sh39 rfl rfl rfl hb_5 (by exact Nat.le_of_ble_eq_true rfl) (by rfl) rfl (fun w2 z2 hb_5 a2 => ?_)
    have S := S.upd a2 ge_5
    have hb_3 := hb_3.upd a2 n_3__5
    have hb_5 : Has w2 b_5 ([.int .i64 0, .int .i64 (l.length : Int), .int .i64 0]) _ := hb_5.now (by kernel_rfl)
    refine RL.nil (RC.back ?_)
    refine RC.done (rs := [.tmp 4, .cell 5 39]) (vs := [_, _]) rfl rfl ⟨rfl, ⟨_, rfl, .inr ⟨[.int .i64 0, .int .i64 (l.length : Int), .int .i64 0], sh39, hb_5.row, rfl⟩⟩, trivial⟩ ?_
    -- end 1
    have he : heapM l o = (l, ⟨0, l.length, 0⟩) := (by rw [heapM, if_pos k10])
    rw [he]
    exact ⟨S, _, _, M, rfl, hc, hF.sub S, Up.refl _ _⟩
  ·
    have n10 := h1
    refine RC.seq ?_
    refine RC.region rfl ?_
    refine RL.ev (.field0 fo34_1 rfl) rfl rfl ?_
    refine RL.ev (.load1 sh3 rfl (hb_3.cell rfl)) rfl rfl ?_
    refine RL.ev (.bin rfl rfl rfl) rfl rfl ?_
    refine RL.ev (.move rfl) rfl rfl ?_
    refine RL.split 22 rfl (fun h3 => ?_) (fun h3 => ?_)
    ·
      have k22 := h3
      refine RL.ev (.move rfl) rfl rfl ?_
      refine RL.ev (.len sl22 rfl) rfl rfl ?_
      refine RL.ev (.bin rfl rfl rfl) rfl rfl ?_
      refine RL.ev (.pick_t rfl rfl) rfl rfl ?_
      refine RL.ev (.assign rfl) rfl rfl ?_
      refine RL.nil (RC.back ?_)
      refine RC.cond_dec rfl (fun h4 => ?_) (fun h4 => ?_)
      ·
        have k18 : 200 ≤ l.length := (by omega)
        refine RC.seq ?_
        refine RC.region rfl ?_
        refine RL.ev (.move rfl) rfl rfl ?_
        refine RL.call rfl ok76 (c_full w_5) rfl rfl ?_
        rintro _ w5 ⟨rfl, s6⟩
        have S := S.trans s6
        have hb_3 := hb_3.sub s6
        have hb_5 := hb_5.sub s6
        refine RL.ev (.assign rfl) rfl rfl ?_
        refine RL.store sh39 rfl rfl rfl hb_5 (by exact Nat.le_of_ble_eq_true rfl) (by rfl) rfl (fun w7 z7 hb_5 a7 => ?_)
        have S := S.upd a7 ge_5
        have hb_3 := hb_3.upd a7 n_3__5
        have hb_5 : Has w7 b_5 ([.int .i64 5, .int .i64 0, .int .i64 0]) _ := hb_5.now (by kernel_rfl)
        refine RL.nil (RC.back ?_)
        refine RC.done (rs := [.tmp 4, .cell 5 39]) (vs := [_, _]) rfl rfl ⟨rfl, ⟨_, rfl, .inr ⟨[.int .i64 5, .int .i64 0, .int .i64 0], sh39, hb_5.row, rfl⟩⟩, trivial⟩ ?_
        -- end 2
        have he : heapM l o = (l, ⟨5, 0, 0⟩) := (by rw [heapM, if_neg n10, if_pos k22, if_pos k18])
        rw [he]
        exact ⟨S, _, _, M, rfl, hc, hF.sub S, Up.refl _ _⟩
      ·
        have n18 : ¬ 200 ≤ l.length := (by omega)
        refine RC.seq ?_
        refine RC.region rfl ?_
        refine RL.ev (.field0 fo34_1 rfl) rfl rfl ?_
        refine RL.ev (.load1 sh3 rfl (hb_3.cell rfl)) rfl rfl ?_
        refine RL.ev (.bin rfl rfl rfl) rfl rfl ?_
        refine RL.ev (.assign rfl) rfl rfl ?_
        refine RL.nil (RC.back ?_)
        refine RC.cond_dec rfl (fun h8 => ?_) (fun h8 => ?_)
        ·
          have k29 := h8
          refine RC.seq ?_
          refine RC.region rfl ?_
          refine RL.ev (.field0 fo34_2 rfl) rfl rfl ?_
          refine RL.ev (.load1 sh2 rfl (hb_3.cell rfl)) rfl rfl ?_
          refine RL.ev (.field0 fo34_3 rfl) rfl rfl ?_
          refine RL.ev (.load1 sh2 rfl (hb_3.cell rfl)) rfl rfl ?_
          refine RL.ev (.buildS ze45 pl45 rfl rfl) rfl rfl ?_
          refine RL.alloc ze45 rfl rfl (fun b_6 w_6 e_6 z_6 hb_6 s_6 => ?_)
          have ge_6 := S.le e_6
          have n_3__6 := hb_3.ne e_6
          have n_5__6 := hb_5.ne e_6
          have S := S.trans s_6
          have hb_3 := hb_3.sub s_6
          have hb_5 := hb_5.sub s_6
          refine RL.store sh45 rfl rfl rfl hb_6 (by exact Nat.le_of_ble_eq_true rfl) (by rfl) rfl (fun w9 z9 hb_6 a9 => ?_)
          have S := S.upd a9 ge_6
          have hb_3 := hb_3.upd a9 n_3__6
          have hb_5 := hb_5.upd a9 n_5__6
          have hb_6 : Has w9 b_6 ([.int .i64 o.a, .int .i64 o.b]) _ := hb_6.now (by kernel_rfl)
          refine RL.nil (RC.back ?_)
          refine RC.seq ?_
          refine RC.region rfl ?_
          refine RL.ev (.move rfl) rfl rfl ?_
          refine RL.ev (.loadR ([.int .i64 o.a, .int .i64 o.b]) sh45 rfl hb_6.row rfl) rfl rfl ?_
          refine RL.call rfl ok79 (c_bsf2 44 ok44 ⟨o.a, o.b⟩ (fun x => cmpIt x ⟨o.a, o.b⟩) (fun x w' => c_less x ⟨o.a, o.b⟩ w') l (fun i j x y hij hx hy h => by rw [cmpIt_neg] at h ⊢; obtain ⟨d, rfl⟩ := Nat.le.dest hij; have q := hs.le d i x y hx hy; unfold lessP at *; omega) a c _ rfl w9 (hl.sub S) (by omega)) rfl rfl ?_
          rintro _ w10 ⟨s11, n, hn1, rfl, hn2, hn3⟩
          have S := S.trans s11
          have hb_3 := hb_3.sub s11
          have hb_5 := hb_5.sub s11
          have hb_6 := hb_6.sub s11
          have hwn : whN l ⟨o.a, o.b⟩ = n := whN_of hn1 (fun k z h1 h2 => cmpIt_neg.1 (hn2 k z h1 h2)) (fun z hz h => hn3 n z (Nat.le_refl _) hz (cmpIt_neg.2 h))
          refine RL.ev (.move rfl) rfl rfl ?_
          refine RL.ev (.extract rfl rfl) rfl rfl ?_
          refine RL.ev (.extract rfl rfl) rfl rfl ?_
          refine RL.ev (.assign rfl) rfl rfl ?_
          refine RL.ev (.assign rfl) rfl rfl ?_
          refine RL.nil (RC.back ?_)
          refine RC.seq ?_
          refine RC.drawD (fun k => k = b_5) [5, 8] w10.heap.size 9 rfl rfl mxo (fun w12 s13 => ?_)
          have hNN : ∀ k, ((k = b_5) ∨ w10.heap.size ≤ k) → w.heap.size ≤ k := fun k e => e.elim (fun e => e ▸ ge_5) (fun e => Nat.le_trans S.size e)
          have ent_S := S.size
          have hN0 : ∀ k, w10.heap.size ≤ k → w.heap.size ≤ k := fun k e => Nat.le_trans S.size e
          have ltD_b_3 := hb_3.lt
          have ltD_b_5 := hb_5.lt
          have ltD_b_6 := hb_6.lt
          have szD := Nat.le_refl w10.heap.size
          have S := S.trans s13
          have hb_3 := hb_3.sub s13
          have hb_5 := hb_5.sub s13
          have hb_6 := hb_6.sub s13
          have szD := Nat.le_trans szD s13.size
          refine RD.take 0 rfl (by kernel_rfl) (by kernel_rfl) (by kernel_rfl) (fun w' s' => .move rfl) rfl rfl ?_
          refine RD.take 2 rfl (by kernel_rfl) (by kernel_rfl) (by kernel_rfl) (fun w' s' => .move rfl) rfl rfl ?_
          refine RD.take 3 rfl (by kernel_rfl) (by kernel_rfl) (by kernel_rfl) (fun w' s' => .loadR ([.int .i64 o.a, .int .i64 o.b]) sh45 rfl (hb_6.step s' (fun e => e.elim (fun e => n_5__6.symm e) (fun e => Nat.not_le.2 ltD_b_6 e))).row rfl) rfl rfl ?_
          refine RD.take 6 rfl (by kernel_rfl) (by kernel_rfl) (by kernel_rfl) (fun w' s' => .buildS ze39 pl39 rfl rfl) rfl rfl ?_
          refine RD.all [1, 4] (by kernel_rfl) rfl (RDs.cons rfl ?_ (RDs.cons rfl ?_ (RDs.nil)))
          ·
            refine RL.call rfl ok75 (c_clone l a c _ rfl w12 (hl.sub S) (by omega)) rfl rfl ?_
            rintro _ w14 ⟨a84, c84, rfl, o84, s15⟩
            have lt3 := hb_3.lt
            have lt5 := hb_5.lt
            have lt6 := hb_6.lt
            have szS := S.size
            have szD84 := szD
            have szB84 := s15.size
            have S := S.trans s15
            have hb_3 := hb_3.sub s15
            have hb_5 := hb_5.sub s15
            have hb_6 := hb_6.sub s15
            have szD := Nat.le_trans szD s15.size
            have d84_3 : ∀ k, ob (.slice a84 l.length c84) = some k → k ≠ b_3 := (fun k hk e => by have := (o84.ge k hk).1; omega)
            have d84_5 : ∀ k, ob (.slice a84 l.length c84) = some k → k ≠ b_5 := (fun k hk e => by have := (o84.ge k hk).1; omega)
            have d84_6 : ∀ k, ob (.slice a84 l.length c84) = some k → k ≠ b_6 := (fun k hk e => by have := (o84.ge k hk).1; omega)
            have o84w := o84.whole
            refine RD.back s15.agr ?_
            refine RD.all [4] (by kernel_rfl) rfl (RDs.cons rfl ?_ (RDs.nil))
            refine RL.buildSlice1 sl22 _ ze45 rfl rfl rfl rfl rfl rfl rfl (fun b_48 w_48 e_48 z_48 hb_48 s_48 => ?_)
            have fr_b_48 : w10.heap.size ≤ b_48 := by rw [e_48]; exact szD
            have ge_48 := S.le e_48
            have n_3__48 := hb_3.ne e_48
            have n_5__48 := hb_5.ne e_48
            have n_6__48 := hb_6.ne e_48
            have d_o84_b_48 := o84.neNew e_48
            have S := S.trans s_48
            have hb_3 := hb_3.sub s_48
            have hb_5 := hb_5.sub s_48
            have hb_6 := hb_6.sub s_48
            have szD := Nat.le_trans szD s_48.size
            have szB84 := Nat.le_trans szB84 s_48.size
            have o84 := o84.sub s_48
            refine RD.back s_48.agr ?_
            refine RD.all [5] (by kernel_rfl) rfl (RDs.cons rfl ?_ (RDs.nil))
            refine RL.call rfl ok77 (c_insert l ⟨o.a, o.b⟩ _ a84 c84 b_48 n w_48 o84 szB84 (by rcases o84w with ⟨q, _⟩ | ⟨g, ex, q, _, _, _, q2⟩; injection q with _ _ q; omega; injection q with _ _ q; rw [q]; exact Nat.le_trans q2 (by decide)) (by omega) hn1 hb_48 (by first | exact d_o84_b_48 | exact (fun k hk e => by have := (o84.ge k hk).1; omega))) rfl rfl ?_
            rintro _ w16 ⟨a88', c88', M88, rfl, hc88, hF88, hM88, a49⟩
            have S := S.agrN a49 (fun k e => Nat.le_trans szS (o84.ge k e).1)
            have hb_3 := hb_3.step a49 (fun e => d84_3 _ e rfl)
            have hb_5 := hb_5.step a49 (fun e => d84_5 _ e rfl)
            have hb_6 := hb_6.step a49 (fun e => d84_6 _ e rfl)
            have szD := Nat.le_trans szD a49.size
            have d88_5 : ∀ k, M88 k → k ≠ b_5 := (fun k hk e => by have := hM88 k hk; omega)
            have d88_3 : ∀ k, M88 k → k ≠ b_3 := (fun k hk e => by have := hM88 k hk; omega)
            have d88_6 : ∀ k, M88 k → k ≠ b_6 := (fun k hk e => by have := hM88 k hk; omega)
            refine RD.backW rfl (a49.mono fun k _ e => .inr (Nat.le_trans szD84 (o84.ge k e).1)) ?_
            refine RD.take 7 rfl (by kernel_rfl) (by kernel_rfl) (by kernel_rfl) (fun w' s' => .assign rfl) rfl rfl ?_
            refine RD.all [8] (by kernel_rfl) rfl (RDs.cons rfl ?_ (RDs.nil))
            refine RL.store sh39 rfl rfl rfl hb_5 (by exact Nat.le_of_ble_eq_true rfl) (by rfl) rfl (fun w18 z18 hb_5 a18 => ?_)
            have S := S.upd a18 ge_5
            have hb_3 := hb_3.upd a18 n_3__5
            have hb_6 := hb_6.upd a18 n_5__6.symm
            have szD := Nat.le_trans szD a18.size
            have hF88 := hF88.updD a18 d88_5
            have hb_5 : Has w18 b_5 ([.int .i64 0, .int .i64 0, .int .i64 0]) _ := hb_5.now (by kernel_rfl)
            refine RD.backW rfl (a18.mono fun k _ e => e ▸ (.inl (rfl))) ?_
            refine RD.done (by kernel_rfl) (RC.back ?_)
            refine RC.done (rs := [.tmp 4, .cell 5 39]) (vs := [_, _]) rfl rfl ⟨rfl, ⟨_, rfl, .inr ⟨[.int .i64 0, .int .i64 0, .int .i64 0], sh39, hb_5.row, rfl⟩⟩, trivial⟩ ?_
            -- end 3
            have he : heapM l o = (l.take n ++ ⟨o.a, o.b⟩ :: l.drop n, ⟨0, 0, 0⟩) := (by rw [heapM, if_neg n10, if_pos k22, if_neg n18, hwn])
            rw [he]
            exact ⟨S, _, _, M88, by rw [show (l.take n ++ (⟨o.a, o.b⟩ : It) :: l.drop n).length = l.length + 1 from by rw [List.length_append, List.length_cons, List.length_take, List.length_drop]; omega]; rfl, by rw [show (l.take n ++ (⟨o.a, o.b⟩ : It) :: l.drop n).length = l.length + 1 from by rw [List.length_append, List.length_cons, List.length_take, List.length_drop]; omega]; exact hc88, hF88, fun k hk => .inr (Nat.le_trans szS (hM88 k hk))⟩
          ·
            refine RL.buildSlice1 sl22 _ ze45 rfl rfl rfl rfl rfl rfl rfl (fun b_48 w_48 e_48 z_48 hb_48 s_48 => ?_)
            have fr_b_48 : w10.heap.size ≤ b_48 := by rw [e_48]; exact szD
            have ge_48 := S.le e_48
            have n_3__48 := hb_3.ne e_48
            have n_5__48 := hb_5.ne e_48
            have n_6__48 := hb_6.ne e_48
            have S := S.trans s_48
            have hb_3 := hb_3.sub s_48
            have hb_5 := hb_5.sub s_48
            have hb_6 := hb_6.sub s_48
            have szD := Nat.le_trans szD s_48.size
            refine RD.back s_48.agr ?_
            refine RD.all [1] (by kernel_rfl) rfl (RDs.cons rfl ?_ (RDs.nil))
            refine RL.call rfl ok75 (c_clone l a c _ rfl w_48 (hl.sub S) (by omega)) rfl rfl ?_
            rintro _ w19 ⟨a84, c84, rfl, o84, s20⟩
            have lt3 := hb_3.lt
            have lt5 := hb_5.lt
            have lt6 := hb_6.lt
            have szS := S.size
            have szD84 := szD
            have szB84 := s20.size
            have S := S.trans s20
            have hb_3 := hb_3.sub s20
            have hb_5 := hb_5.sub s20
            have hb_6 := hb_6.sub s20
            have szD := Nat.le_trans szD s20.size
            have hb_48 := hb_48.sub s20
            have d84_3 : ∀ k, ob (.slice a84 l.length c84) = some k → k ≠ b_3 := (fun k hk e => by have := (o84.ge k hk).1; omega)
            have d84_5 : ∀ k, ob (.slice a84 l.length c84) = some k → k ≠ b_5 := (fun k hk e => by have := (o84.ge k hk).1; omega)
            have d84_6 : ∀ k, ob (.slice a84 l.length c84) = some k → k ≠ b_6 := (fun k hk e => by have := (o84.ge k hk).1; omega)
            have o84w := o84.whole
            refine RD.back s20.agr ?_
            refine RD.all [5] (by kernel_rfl) rfl (RDs.cons rfl ?_ (RDs.nil))
            refine RL.call rfl ok77 (c_insert l ⟨o.a, o.b⟩ _ a84 c84 b_48 n w19 o84 szB84 (by rcases o84w with ⟨q, _⟩ | ⟨g, ex, q, _, _, _, q2⟩; injection q with _ _ q; omega; injection q with _ _ q; rw [q]; exact Nat.le_trans q2 (by decide)) (by omega) hn1 hb_48 (by first | exact d_o84_b_48 | exact (fun k hk e => by have := (o84.ge k hk).1; omega))) rfl rfl ?_
            rintro _ w21 ⟨a88', c88', M88, rfl, hc88, hF88, hM88, a49⟩
            have S := S.agrN a49 (fun k e => Nat.le_trans szS (o84.ge k e).1)
            have hb_3 := hb_3.step a49 (fun e => d84_3 _ e rfl)
            have hb_5 := hb_5.step a49 (fun e => d84_5 _ e rfl)
            have hb_6 := hb_6.step a49 (fun e => d84_6 _ e rfl)
            have szD := Nat.le_trans szD a49.size
            have d88_5 : ∀ k, M88 k → k ≠ b_5 := (fun k hk e => by have := hM88 k hk; omega)
            have d88_3 : ∀ k, M88 k → k ≠ b_3 := (fun k hk e => by have := hM88 k hk; omega)
            have d88_6 : ∀ k, M88 k → k ≠ b_6 := (fun k hk e => by have := hM88 k hk; omega)
            refine RD.backW rfl (a49.mono fun k _ e => .inr (Nat.le_trans szD84 (o84.ge k e).1)) ?_
            refine RD.take 7 rfl (by kernel_rfl) (by kernel_rfl) (by kernel_rfl) (fun w' s' => .assign rfl) rfl rfl ?_
            refine RD.all [8] (by kernel_rfl) rfl (RDs.cons rfl ?_ (RDs.nil))
            refine RL.store sh39 rfl rfl rfl hb_5 (by exact Nat.le_of_ble_eq_true rfl) (by rfl) rfl (fun w23 z23 hb_5 a23 => ?_)
            have S := S.upd a23 ge_5
            have hb_3 := hb_3.upd a23 n_3__5
            have hb_6 := hb_6.upd a23 n_5__6.symm
            have szD := Nat.le_trans szD a23.size
            have hF88 := hF88.updD a23 d88_5
            have hb_5 : Has w23 b_5 ([.int .i64 0, .int .i64 0, .int .i64 0]) _ := hb_5.now (by kernel_rfl)
            refine RD.backW rfl (a23.mono fun k _ e => e ▸ (.inl (rfl))) ?_
            refine RD.done (by kernel_rfl) (RC.back ?_)
            refine RC.done (rs := [.tmp 4, .cell 5 39]) (vs := [_, _]) rfl rfl ⟨rfl, ⟨_, rfl, .inr ⟨[.int .i64 0, .int .i64 0, .int .i64 0], sh39, hb_5.row, rfl⟩⟩, trivial⟩ ?_
            -- end 4
            have he : heapM l o = (l.take n ++ ⟨o.a, o.b⟩ :: l.drop n, ⟨0, 0, 0⟩) := (by rw [heapM, if_neg n10, if_pos k22, if_neg n18, hwn])
            rw [he]
            exact ⟨S, _, _, M88, by rw [show (l.take n ++ (⟨o.a, o.b⟩ : It) :: l.drop n).length = l.length + 1 from by rw [List.length_append, List.length_cons, List.length_take, List.length_drop]; omega]; rfl, by rw [show (l.take n ++ (⟨o.a, o.b⟩ : It) :: l.drop n).length = l.length + 1 from by rw [List.length_append, List.length_cons, List.length_take, List.length_drop]; omega]; exact hc88, hF88, fun k hk => .inr (Nat.le_trans szS (hM88 k hk))⟩
        ·
          have n29 := h8
          refine RC.seq ?_
          refine RC.region rfl ?_
          refine RL.ev (.move rfl) rfl rfl ?_
          refine RL.ev (.len sl22 rfl) rfl rfl ?_
          refine RL.ev (.bin rfl rfl rfl) rfl rfl ?_
          refine RL.ev (.assign rfl) rfl rfl ?_
          refine RL.nil (RC.back ?_)
          refine RC.cond_dec rfl (fun h24 => ?_) (fun h24 => ?_)
          ·
            have k51 : l.length = 0 := (by omega)
            refine RC.seq ?_
            refine RC.region rfl ?_
            refine RL.ev (.move rfl) rfl rfl ?_
            refine RL.call rfl ok73 (c_none w_5) rfl rfl ?_
            rintro _ w25 ⟨rfl, s26⟩
            have S := S.trans s26
            have hb_3 := hb_3.sub s26
            have hb_5 := hb_5.sub s26
            refine RL.ev (.assign rfl) rfl rfl ?_
            refine RL.store sh39 rfl rfl rfl hb_5 (by exact Nat.le_of_ble_eq_true rfl) (by rfl) rfl (fun w27 z27 hb_5 a27 => ?_)
            have S := S.upd a27 ge_5
            have hb_3 := hb_3.upd a27 n_3__5
            have hb_5 : Has w27 b_5 ([.int .i64 3, .int .i64 0, .int .i64 0]) _ := hb_5.now (by kernel_rfl)
            refine RL.nil (RC.back ?_)
            refine RC.done (rs := [.tmp 4, .cell 5 39]) (vs := [_, _]) rfl rfl ⟨rfl, ⟨_, rfl, .inr ⟨[.int .i64 3, .int .i64 0, .int .i64 0], sh39, hb_5.row, rfl⟩⟩, trivial⟩ ?_
            -- end 5
            exact absurd k22 n29
          ·
            have n51 : 0 < l.length := (by omega)
            obtain ⟨y, hy⟩ := getSome (l := l) (i := 0) n51
            have hva := valAt_get hy
            refine RC.skip (RC.back ?_)
            refine RC.seq ?_
            refine RC.drawD (fun k => False) [10] w_5.heap.size 11 rfl rfl mxo (fun w28 s29 => ?_)
            have hNN : ∀ k, ((False) ∨ w_5.heap.size ≤ k) → w.heap.size ≤ k := fun k e => e.elim (fun e => e.elim) (fun e => Nat.le_trans S.size e)
            have ent_S := S.size
            have hN0 : ∀ k, w_5.heap.size ≤ k → w.heap.size ≤ k := fun k e => Nat.le_trans S.size e
            have ltD_b_3 := hb_3.lt
            have ltD_b_5 := hb_5.lt
            have szD := Nat.le_refl w_5.heap.size
            have S := S.trans s29
            have hb_3 := hb_3.sub s29
            have hb_5 := hb_5.sub s29
            have szD := Nat.le_trans szD s29.size
            refine RD.take 0 rfl (by kernel_rfl) (by kernel_rfl) (by kernel_rfl) (fun w' s' => .move rfl) rfl rfl ?_
            refine RD.take 1 rfl (by kernel_rfl) (by kernel_rfl) (by kernel_rfl) (fun w' s' => .indexS sl22 rfl rfl (by omega) (hl.is (i := 0) (by simp only [List.length_map, List.length_cons, List.length_nil]; omega))) rfl rfl ?_
            refine RD.take 2 rfl (by kernel_rfl) (by kernel_rfl) (by kernel_rfl) (fun w' s' => .fieldA fo45_0 rfl) rfl rfl ?_
            refine RD.take 3 rfl (by kernel_rfl) (by kernel_rfl) (by kernel_rfl) (fun w' s' => .load1 sh2 rfl ((hl.sub (S.agrN s' hNN)).cell (enc := It.cells) (i := 0) (j := 0) hy rfl)) rfl rfl ?_
            refine RD.take 4 rfl (by kernel_rfl) (by kernel_rfl) (by kernel_rfl) (fun w' s' => .move rfl) rfl rfl ?_
            refine RD.take 5 rfl (by kernel_rfl) (by kernel_rfl) (by kernel_rfl) (fun w' s' => .indexS sl22 rfl rfl (by omega) (hl.is (i := 0) (by simp only [List.length_map, List.length_cons, List.length_nil]; omega))) rfl rfl ?_
            refine RD.take 6 rfl (by kernel_rfl) (by kernel_rfl) (by kernel_rfl) (fun w' s' => .fieldA fo45_1 rfl) rfl rfl ?_
            refine RD.take 7 rfl (by kernel_rfl) (by kernel_rfl) (by kernel_rfl) (fun w' s' => .load1 sh2 rfl ((hl.sub (S.agrN s' hNN)).cell (enc := It.cells) (i := 0) (j := 1) hy rfl)) rfl rfl ?_
            refine RD.take 8 rfl (by kernel_rfl) (by kernel_rfl) (by kernel_rfl) (fun w' s' => .buildS ze39 pl39 rfl rfl) rfl rfl ?_
            refine RD.all [9] (by kernel_rfl) rfl (RDs.cons rfl ?_ (RDs.nil))
            refine RL.alloc ze39 rfl rfl (fun b_9 w_9 e_9 z_9 hb_9 s_9 => ?_)
            have fr_b_9 : w_5.heap.size ≤ b_9 := by rw [e_9]; exact szD
            have ge_9 := S.le e_9
            have n_3__9 := hb_3.ne e_9
            have n_5__9 := hb_5.ne e_9
            have S := S.trans s_9
            have hb_3 := hb_3.sub s_9
            have hb_5 := hb_5.sub s_9
            have szD := Nat.le_trans szD s_9.size
            refine RD.back s_9.agr ?_
            refine RD.all [10] (by kernel_rfl) rfl (RDs.cons rfl ?_ (RDs.nil))
            refine RL.store sh39 rfl rfl rfl hb_9 (by exact Nat.le_of_ble_eq_true rfl) (by rfl) rfl (fun w30 z30 hb_9 a30 => ?_)
            have S := S.upd a30 ge_9
            have hb_3 := hb_3.upd a30 n_3__9
            have hb_5 := hb_5.upd a30 n_5__9
            have szD := Nat.le_trans szD a30.size
            have hb_9 : Has w30 b_9 ([.int .i64 0, .int .i64 y.k, .int .i64 y.v]) _ := hb_9.now (by kernel_rfl)
            refine RD.backW rfl (a30.mono fun k _ e => e ▸ (.inr fr_b_9)) ?_
            refine RD.done (by kernel_rfl) (RC.back ?_)
            refine RC.seq ?_
            refine RC.seq ?_
            refine RC.region rfl ?_
            refine RL.ev (.field0 fo34_1 rfl) rfl rfl ?_
            refine RL.ev (.load1 sh3 rfl (hb_3.cell rfl)) rfl rfl ?_
            refine RL.ev (.bin rfl rfl rfl) rfl rfl ?_
            refine RL.nil (RC.back ?_)
            refine RC.cond_dec rfl (fun h31 => ?_) (fun h31 => ?_)
            ·
              have k68 := h31
              refine RC.region rfl ?_
              refine RL.ev (.move rfl) rfl rfl ?_
              refine RL.ev (.sliceLo sl22 rfl rfl (by omega)) rfl rfl ?_
              refine RL.ev (.assign rfl) rfl rfl ?_
              refine RL.nil (RC.back ?_)
              refine RC.seq ?_
              refine RC.drawD (fun k => k = b_5) [3] w30.heap.size 4 rfl rfl mxo (fun w32 s33 => ?_)
              have hNN : ∀ k, ((k = b_5) ∨ w30.heap.size ≤ k) → w.heap.size ≤ k := fun k e => e.elim (fun e => e ▸ ge_5) (fun e => Nat.le_trans S.size e)
              have ent_S := S.size
              have hN0 : ∀ k, w30.heap.size ≤ k → w.heap.size ≤ k := fun k e => Nat.le_trans S.size e
              have ltD_b_3 := hb_3.lt
              have ltD_b_5 := hb_5.lt
              have ltD_b_9 := hb_9.lt
              have szD := Nat.le_refl w30.heap.size
              have S := S.trans s33
              have hb_3 := hb_3.sub s33
              have hb_5 := hb_5.sub s33
              have hb_9 := hb_9.sub s33
              have szD := Nat.le_trans szD s33.size
              refine RD.take 0 rfl (by kernel_rfl) (by kernel_rfl) (by kernel_rfl) (fun w' s' => .move rfl) rfl rfl ?_
              refine RD.take 1 rfl (by kernel_rfl) (by kernel_rfl) (by kernel_rfl) (fun w' s' => .loadR ([.int .i64 0, .int .i64 y.k, .int .i64 y.v]) sh39 rfl (hb_9.step s' (fun e => e.elim (fun e => n_5__9.symm e) (fun e => Nat.not_le.2 ltD_b_9 e))).row rfl) rfl rfl ?_
              refine RD.take 2 rfl (by kernel_rfl) (by kernel_rfl) (by kernel_rfl) (fun w' s' => .assign rfl) rfl rfl ?_
              refine RD.all [3] (by kernel_rfl) rfl (RDs.cons rfl ?_ (RDs.nil))
              refine RL.store sh39 rfl rfl rfl hb_5 (by exact Nat.le_of_ble_eq_true rfl) (by rfl) rfl (fun w34 z34 hb_5 a34 => ?_)
              have S := S.upd a34 ge_5
              have hb_3 := hb_3.upd a34 n_3__5
              have hb_9 := hb_9.upd a34 n_5__9.symm
              have szD := Nat.le_trans szD a34.size
              have hb_5 : Has w34 b_5 ([.int .i64 0, .int .i64 y.k, .int .i64 y.v]) _ := hb_5.now (by kernel_rfl)
              refine RD.backW rfl (a34.mono fun k _ e => e ▸ (.inl (rfl))) ?_
              refine RD.done (by kernel_rfl) (RC.back ?_)
              refine RC.done (rs := [.tmp 4, .cell 5 39]) (vs := [_, _]) rfl rfl ⟨rfl, ⟨_, rfl, .inr ⟨[.int .i64 0, .int .i64 y.k, .int .i64 y.v], sh39, hb_5.row, rfl⟩⟩, trivial⟩ ?_
              -- end 6
              exact absurd k22 n29
            ·
              have n68 := h31
              refine RC.skip (RC.back ?_)
              refine RC.seq ?_
              refine RC.drawD (fun k => k = b_5) [3] w30.heap.size 4 rfl rfl mxo (fun w35 s36 => ?_)
              have hNN : ∀ k, ((k = b_5) ∨ w30.heap.size ≤ k) → w.heap.size ≤ k := fun k e => e.elim (fun e => e ▸ ge_5) (fun e => Nat.le_trans S.size e)
              have ent_S := S.size
              have hN0 : ∀ k, w30.heap.size ≤ k → w.heap.size ≤ k := fun k e => Nat.le_trans S.size e
              have ltD_b_3 := hb_3.lt
              have ltD_b_5 := hb_5.lt
              have ltD_b_9 := hb_9.lt
              have szD := Nat.le_refl w30.heap.size
              have S := S.trans s36
              have hb_3 := hb_3.sub s36
              have hb_5 := hb_5.sub s36
              have hb_9 := hb_9.sub s36
              have szD := Nat.le_trans szD s36.size
              refine RD.take 0 rfl (by kernel_rfl) (by kernel_rfl) (by kernel_rfl) (fun w' s' => .move rfl) rfl rfl ?_
              refine RD.take 1 rfl (by kernel_rfl) (by kernel_rfl) (by kernel_rfl) (fun w' s' => .loadR ([.int .i64 0, .int .i64 y.k, .int .i64 y.v]) sh39 rfl (hb_9.step s' (fun e => e.elim (fun e => n_5__9.symm e) (fun e => Nat.not_le.2 ltD_b_9 e))).row rfl) rfl rfl ?_
              refine RD.take 2 rfl (by kernel_rfl) (by kernel_rfl) (by kernel_rfl) (fun w' s' => .assign rfl) rfl rfl ?_
              refine RD.all [3] (by kernel_rfl) rfl (RDs.cons rfl ?_ (RDs.nil))
              refine RL.store sh39 rfl rfl rfl hb_5 (by exact Nat.le_of_ble_eq_true rfl) (by rfl) rfl (fun w37 z37 hb_5 a37 => ?_)
              have S := S.upd a37 ge_5
              have hb_3 := hb_3.upd a37 n_3__5
              have hb_9 := hb_9.upd a37 n_5__9.symm
              have szD := Nat.le_trans szD a37.size
              have hb_5 : Has w37 b_5 ([.int .i64 0, .int .i64 y.k, .int .i64 y.v]) _ := hb_5.now (by kernel_rfl)
              refine RD.backW rfl (a37.mono fun k _ e => e ▸ (.inl (rfl))) ?_
              refine RD.done (by kernel_rfl) (RC.back ?_)
              refine RC.done (rs := [.tmp 4, .cell 5 39]) (vs := [_, _]) rfl rfl ⟨rfl, ⟨_, rfl, .inr ⟨[.int .i64 0, .int .i64 y.k, .int .i64 y.v], sh39, hb_5.row, rfl⟩⟩, trivial⟩ ?_
              -- end 7
              exact absurd k22 n29
    ·
      have n22 := h3
      refine RL.off rfl rfl ?_
      refine RL.off rfl rfl ?_
      refine RL.off rfl rfl ?_
      refine RL.ev (.pick_f rfl rfl) rfl rfl ?_
      refine RL.ev (.assign rfl) rfl rfl ?_
      refine RL.nil (RC.back ?_)
      refine RC.cond_f rfl ?_
      refine RC.seq ?_
      refine RC.region rfl ?_
      refine RL.ev (.field0 fo34_1 rfl) rfl rfl ?_
      refine RL.ev (.load1 sh3 rfl (hb_3.cell rfl)) rfl rfl ?_
      refine RL.ev (.bin rfl rfl rfl) rfl rfl ?_
      refine RL.ev (.assign rfl) rfl rfl ?_
      refine RL.nil (RC.back ?_)
      refine RC.cond_dec rfl (fun h38 => ?_) (fun h38 => ?_)
      ·
        have k29 := h38
        refine RC.seq ?_
        refine RC.region rfl ?_
        refine RL.ev (.field0 fo34_2 rfl) rfl rfl ?_
        refine RL.ev (.load1 sh2 rfl (hb_3.cell rfl)) rfl rfl ?_
        refine RL.ev (.field0 fo34_3 rfl) rfl rfl ?_
        refine RL.ev (.load1 sh2 rfl (hb_3.cell rfl)) rfl rfl ?_
        refine RL.ev (.buildS ze45 pl45 rfl rfl) rfl rfl ?_
        refine RL.alloc ze45 rfl rfl (fun b_6 w_6 e_6 z_6 hb_6 s_6 => ?_)
        have ge_6 := S.le e_6
        have n_3__6 := hb_3.ne e_6
        have n_5__6 := hb_5.ne e_6
        have S := S.trans s_6
        have hb_3 := hb_3.sub s_6
        have hb_5 := hb_5.sub s_6
        refine RL.store sh45 rfl rfl rfl hb_6 (by exact Nat.le_of_ble_eq_true rfl) (by rfl) rfl (fun w39 z39 hb_6 a39 => ?_)
        have S := S.upd a39 ge_6
        have hb_3 := hb_3.upd a39 n_3__6
        have hb_5 := hb_5.upd a39 n_5__6
        have hb_6 : Has w39 b_6 ([.int .i64 o.a, .int .i64 o.b]) _ := hb_6.now (by kernel_rfl)
        refine RL.nil (RC.back ?_)
        refine RC.seq ?_
        refine RC.region rfl ?_
        refine RL.ev (.move rfl) rfl rfl ?_
        refine RL.ev (.loadR ([.int .i64 o.a, .int .i64 o.b]) sh45 rfl hb_6.row rfl) rfl rfl ?_
        refine RL.call rfl ok79 (c_bsf2 44 ok44 ⟨o.a, o.b⟩ (fun x => cmpIt x ⟨o.a, o.b⟩) (fun x w' => c_less x ⟨o.a, o.b⟩ w') l (fun i j x y hij hx hy h => by rw [cmpIt_neg] at h ⊢; obtain ⟨d, rfl⟩ := Nat.le.dest hij; have q := hs.le d i x y hx hy; unfold lessP at *; omega) a c _ rfl w39 (hl.sub S) (by omega)) rfl rfl ?_
        rintro _ w40 ⟨s41, n, hn1, rfl, hn2, hn3⟩
        have S := S.trans s41
        have hb_3 := hb_3.sub s41
        have hb_5 := hb_5.sub s41
        have hb_6 := hb_6.sub s41
        have hwn : whN l ⟨o.a, o.b⟩ = n := whN_of hn1 (fun k z h1 h2 => cmpIt_neg.1 (hn2 k z h1 h2)) (fun z hz h => hn3 n z (Nat.le_refl _) hz (cmpIt_neg.2 h))
        refine RL.ev (.move rfl) rfl rfl ?_
        refine RL.ev (.extract rfl rfl) rfl rfl ?_
        refine RL.ev (.extract rfl rfl) rfl rfl ?_
        refine RL.ev (.assign rfl) rfl rfl ?_
        refine RL.ev (.assign rfl) rfl rfl ?_
        refine RL.nil (RC.back ?_)
        refine RC.seq ?_
        refine RC.drawD (fun k => k = b_5) [5, 8] w40.heap.size 9 rfl rfl mxo (fun w42 s43 => ?_)
        have hNN : ∀ k, ((k = b_5) ∨ w40.heap.size ≤ k) → w.heap.size ≤ k := fun k e => e.elim (fun e => e ▸ ge_5) (fun e => Nat.le_trans S.size e)
        have ent_S := S.size
        have hN0 : ∀ k, w40.heap.size ≤ k → w.heap.size ≤ k := fun k e => Nat.le_trans S.size e
        have ltD_b_3 := hb_3.lt
        have ltD_b_5 := hb_5.lt
        have ltD_b_6 := hb_6.lt
        have szD := Nat.le_refl w40.heap.size
        have S := S.trans s43
        have hb_3 := hb_3.sub s43
        have hb_5 := hb_5.sub s43
        have hb_6 := hb_6.sub s43
        have szD := Nat.le_trans szD s43.size
        refine RD.take 0 rfl (by kernel_rfl) (by kernel_rfl) (by kernel_rfl) (fun w' s' => .move rfl) rfl rfl ?_
        refine RD.take 2 rfl (by kernel_rfl) (by kernel_rfl) (by kernel_rfl) (fun w' s' => .move rfl) rfl rfl ?_
        refine RD.take 3 rfl (by kernel_rfl) (by kernel_rfl) (by kernel_rfl) (fun w' s' => .loadR ([.int .i64 o.a, .int .i64 o.b]) sh45 rfl (hb_6.step s' (fun e => e.elim (fun e => n_5__6.symm e) (fun e => Nat.not_le.2 ltD_b_6 e))).row rfl) rfl rfl ?_
        refine RD.take 6 rfl (by kernel_rfl) (by kernel_rfl) (by kernel_rfl) (fun w' s' => .buildS ze39 pl39 rfl rfl) rfl rfl ?_
        refine RD.all [1, 4] (by kernel_rfl) rfl (RDs.cons rfl ?_ (RDs.cons rfl ?_ (RDs.nil)))
        ·
          refine RL.call rfl ok75 (c_clone l a c _ rfl w42 (hl.sub S) (by omega)) rfl rfl ?_
          rintro _ w44 ⟨a84, c84, rfl, o84, s45⟩
          have lt3 := hb_3.lt
          have lt5 := hb_5.lt
          have lt6 := hb_6.lt
          have szS := S.size
          have szD84 := szD
          have szB84 := s45.size
          have S := S.trans s45
          have hb_3 := hb_3.sub s45
          have hb_5 := hb_5.sub s45
          have hb_6 := hb_6.sub s45
          have szD := Nat.le_trans szD s45.size
          have d84_3 : ∀ k, ob (.slice a84 l.length c84) = some k → k ≠ b_3 := (fun k hk e => by have := (o84.ge k hk).1; omega)
          have d84_5 : ∀ k, ob (.slice a84 l.length c84) = some k → k ≠ b_5 := (fun k hk e => by have := (o84.ge k hk).1; omega)
          have d84_6 : ∀ k, ob (.slice a84 l.length c84) = some k → k ≠ b_6 := (fun k hk e => by have := (o84.ge k hk).1; omega)
          have o84w := o84.whole
          refine RD.back s45.agr ?_
          refine RD.all [4] (by kernel_rfl) rfl (RDs.cons rfl ?_ (RDs.nil))
          refine RL.buildSlice1 sl22 _ ze45 rfl rfl rfl rfl rfl rfl rfl (fun b_48 w_48 e_48 z_48 hb_48 s_48 => ?_)
          have fr_b_48 : w40.heap.size ≤ b_48 := by rw [e_48]; exact szD
          have ge_48 := S.le e_48
          have n_3__48 := hb_3.ne e_48
          have n_5__48 := hb_5.ne e_48
          have n_6__48 := hb_6.ne e_48
          have d_o84_b_48 := o84.neNew e_48
          have S := S.trans s_48
          have hb_3 := hb_3.sub s_48
          have hb_5 := hb_5.sub s_48
          have hb_6 := hb_6.sub s_48
          have szD := Nat.le_trans szD s_48.size
          have szB84 := Nat.le_trans szB84 s_48.size
          have o84 := o84.sub s_48
          refine RD.back s_48.agr ?_
          refine RD.all [5] (by kernel_rfl) rfl (RDs.cons rfl ?_ (RDs.nil))
          refine RL.call rfl ok77 (c_insert l ⟨o.a, o.b⟩ _ a84 c84 b_48 n w_48 o84 szB84 (by rcases o84w with ⟨q, _⟩ | ⟨g, ex, q, _, _, _, q2⟩; injection q with _ _ q; omega; injection q with _ _ q; rw [q]; exact Nat.le_trans q2 (by decide)) (by omega) hn1 hb_48 (by first | exact d_o84_b_48 | exact (fun k hk e => by have := (o84.ge k hk).1; omega))) rfl rfl ?_
          rintro _ w46 ⟨a88', c88', M88, rfl, hc88, hF88, hM88, a49⟩
          have S := S.agrN a49 (fun k e => Nat.le_trans szS (o84.ge k e).1)
          have hb_3 := hb_3.step a49 (fun e => d84_3 _ e rfl)
          have hb_5 := hb_5.step a49 (fun e => d84_5 _ e rfl)
          have hb_6 := hb_6.step a49 (fun e => d84_6 _ e rfl)
          have szD := Nat.le_trans szD a49.size
          have d88_5 : ∀ k, M88 k → k ≠ b_5 := (fun k hk e => by have := hM88 k hk; omega)
          have d88_3 : ∀ k, M88 k → k ≠ b_3 := (fun k hk e => by have := hM88 k hk; omega)
          have d88_6 : ∀ k, M88 k → k ≠ b_6 := (fun k hk e => by have := hM88 k hk; omega)
          refine RD.backW rfl (a49.mono fun k _ e => .inr (Nat.le_trans szD84 (o84.ge k e).1)) ?_
          refine RD.take 7 rfl (by kernel_rfl) (by kernel_rfl) (by kernel_rfl) (fun w' s' => .assign rfl) rfl rfl ?_
          refine RD.all [8] (by kernel_rfl) rfl (RDs.cons rfl ?_ (RDs.nil))
          refine RL.store sh39 rfl rfl rfl hb_5 (by exact Nat.le_of_ble_eq_true rfl) (by rfl) rfl (fun w48 z48 hb_5 a48 => ?_)
          have S := S.upd a48 ge_5
          have hb_3 := hb_3.upd a48 n_3__5
          have hb_6 := hb_6.upd a48 n_5__6.symm
          have szD := Nat.le_trans szD a48.size
          have hF88 := hF88.updD a48 d88_5
          have hb_5 : Has w48 b_5 ([.int .i64 0, .int .i64 0, .int .i64 0]) _ := hb_5.now (by kernel_rfl)
          refine RD.backW rfl (a48.mono fun k _ e => e ▸ (.inl (rfl))) ?_
          refine RD.done (by kernel_rfl) (RC.back ?_)
          refine RC.done (rs := [.tmp 4, .cell 5 39]) (vs := [_, _]) rfl rfl ⟨rfl, ⟨_, rfl, .inr ⟨[.int .i64 0, .int .i64 0, .int .i64 0], sh39, hb_5.row, rfl⟩⟩, trivial⟩ ?_
          -- end 8
          exact absurd k29 n22
        ·
          refine RL.buildSlice1 sl22 _ ze45 rfl rfl rfl rfl rfl rfl rfl (fun b_48 w_48 e_48 z_48 hb_48 s_48 => ?_)
          have fr_b_48 : w40.heap.size ≤ b_48 := by rw [e_48]; exact szD
          have ge_48 := S.le e_48
          have n_3__48 := hb_3.ne e_48
          have n_5__48 := hb_5.ne e_48
          have n_6__48 := hb_6.ne e_48
          have S := S.trans s_48
          have hb_3 := hb_3.sub s_48
          have hb_5 := hb_5.sub s_48
          have hb_6 := hb_6.sub s_48
          have szD := Nat.le_trans szD s_48.size
          refine RD.back s_48.agr ?_
          refine RD.all [1] (by kernel_rfl) rfl (RDs.cons rfl ?_ (RDs.nil))
          refine RL.call rfl ok75 (c_clone l a c _ rfl w_48 (hl.sub S) (by omega)) rfl rfl ?_
          rintro _ w49 ⟨a84, c84, rfl, o84, s50⟩
          have lt3 := hb_3.lt
          have lt5 := hb_5.lt
          have lt6 := hb_6.lt
          have szS := S.size
          have szD84 := szD
          have szB84 := s50.size
          have S := S.trans s50
          have hb_3 := hb_3.sub s50
          have hb_5 := hb_5.sub s50
          have hb_6 := hb_6.sub s50
          have szD := Nat.le_trans szD s50.size
          have hb_48 := hb_48.sub s50
          have d84_3 : ∀ k, ob (.slice a84 l.length c84) = some k → k ≠ b_3 := (fun k hk e => by have := (o84.ge k hk).1; omega)
          have d84_5 : ∀ k, ob (.slice a84 l.length c84) = some k → k ≠ b_5 := (fun k hk e => by have := (o84.ge k hk).1; omega)
          have d84_6 : ∀ k, ob (.slice a84 l.length c84) = some k → k ≠ b_6 := (fun k hk e => by have := (o84.ge k hk).1; omega)
          have o84w := o84.whole
          refine RD.back s50.agr ?_
          refine RD.all [5] (by kernel_rfl) rfl (RDs.cons rfl ?_ (RDs.nil))
          refine RL.call rfl ok77 (c_insert l ⟨o.a, o.b⟩ _ a84 c84 b_48 n w49 o84 szB84 (by rcases o84w with ⟨q, _⟩ | ⟨g, ex, q, _, _, _, q2⟩; injection q with _ _ q; omega; injection q with _ _ q; rw [q]; exact Nat.le_trans q2 (by decide)) (by omega) hn1 hb_48 (by first | exact d_o84_b_48 | exact (fun k hk e => by have := (o84.ge k hk).1; omega))) rfl rfl ?_
          rintro _ w51 ⟨a88', c88', M88, rfl, hc88, hF88, hM88, a49⟩
          have S := S.agrN a49 (fun k e => Nat.le_trans szS (o84.ge k e).1)
          have hb_3 := hb_3.step a49 (fun e => d84_3 _ e rfl)
          have hb_5 := hb_5.step a49 (fun e => d84_5 _ e rfl)
          have hb_6 := hb_6.step a49 (fun e => d84_6 _ e rfl)
          have szD := Nat.le_trans szD a49.size
          have d88_5 : ∀ k, M88 k → k ≠ b_5 := (fun k hk e => by have := hM88 k hk; omega)
          have d88_3 : ∀ k, M88 k → k ≠ b_3 := (fun k hk e => by have := hM88 k hk; omega)
          have d88_6 : ∀ k, M88 k → k ≠ b_6 := (fun k hk e => by have := hM88 k hk; omega)
          refine RD.backW rfl (a49.mono fun k _ e => .inr (Nat.le_trans szD84 (o84.ge k e).1)) ?_
          refine RD.take 7 rfl (by kernel_rfl) (by kernel_rfl) (by kernel_rfl) (fun w' s' => .assign rfl) rfl rfl ?_
          refine RD.all [8] (by kernel_rfl) rfl (RDs.cons rfl ?_ (RDs.nil))
          refine RL.store sh39 rfl rfl rfl hb_5 (by exact Nat.le_of_ble_eq_true rfl) (by rfl) rfl (fun w53 z53 hb_5 a53 => ?_)
          have S := S.upd a53 ge_5
          have hb_3 := hb_3.upd a53 n_3__5
          have hb_6 := hb_6.upd a53 n_5__6.symm
          have szD := Nat.le_trans szD a53.size
          have hF88 := hF88.updD a53 d88_5
          have hb_5 : Has w53 b_5 ([.int .i64 0, .int .i64 0, .int .i64 0]) _ := hb_5.now (by kernel_rfl)
          refine RD.backW rfl (a53.mono fun k _ e => e ▸ (.inl (rfl))) ?_
          refine RD.done (by kernel_rfl) (RC.back ?_)
          refine RC.done (rs := [.tmp 4, .cell 5 39]) (vs := [_, _]) rfl rfl ⟨rfl, ⟨_, rfl, .inr ⟨[.int .i64 0, .int .i64 0, .int .i64 0], sh39, hb_5.row, rfl⟩⟩, trivial⟩ ?_
          -- end 9
          exact absurd k29 n22
      ·
        have n29 := h38
        refine RC.seq ?_
        refine RC.region rfl ?_
        refine RL.ev (.move rfl) rfl rfl ?_
        refine RL.ev (.len sl22 rfl) rfl rfl ?_
        refine RL.ev (.bin rfl rfl rfl) rfl rfl ?_
        refine RL.ev (.assign rfl) rfl rfl ?_
        refine RL.nil (RC.back ?_)
        refine RC.cond_dec rfl (fun h54 => ?_) (fun h54 => ?_)
        ·
          have k51 : l.length = 0 := (by omega)
          refine RC.seq ?_
          refine RC.region rfl ?_
          refine RL.ev (.move rfl) rfl rfl ?_
          refine RL.call rfl ok73 (c_none w_5) rfl rfl ?_
          rintro _ w55 ⟨rfl, s56⟩
          have S := S.trans s56
          have hb_3 := hb_3.sub s56
          have hb_5 := hb_5.sub s56
          refine RL.ev (.assign rfl) rfl rfl ?_
          refine RL.store sh39 rfl rfl rfl hb_5 (by exact Nat.le_of_ble_eq_true rfl) (by rfl) rfl (fun w57 z57 hb_5 a57 => ?_)
          have S := S.upd a57 ge_5
          have hb_3 := hb_3.upd a57 n_3__5
          have hb_5 : Has w57 b_5 ([.int .i64 3, .int .i64 0, .int .i64 0]) _ := hb_5.now (by kernel_rfl)
          refine RL.nil (RC.back ?_)
          refine RC.done (rs := [.tmp 4, .cell 5 39]) (vs := [_, _]) rfl rfl ⟨rfl, ⟨_, rfl, .inr ⟨[.int .i64 3, .int .i64 0, .int .i64 0], sh39, hb_5.row, rfl⟩⟩, trivial⟩ ?_
          -- end 10
          have he : heapM l o = (l, ⟨3, 0, 0⟩) := (by rw [heapM, if_neg n10, if_neg n22, if_pos k51])
          rw [he]
          exact ⟨S, _, _, M, rfl, hc, hF.sub S, Up.refl _ _⟩
        ·
          have n51 : 0 < l.length := (by omega)
          obtain ⟨y, hy⟩ := getSome (l := l) (i := 0) n51
          have hva := valAt_get hy
          refine RC.skip (RC.back ?_)
          refine RC.seq ?_
          refine RC.drawD (fun k => False) [10] w_5.heap.size 11 rfl rfl mxo (fun w58 s59 => ?_)
          have hNN : ∀ k, ((False) ∨ w_5.heap.size ≤ k) → w.heap.size ≤ k := fun k e => e.elim (fun e => e.elim) (fun e => Nat.le_trans S.size e)
          have ent_S := S.size
          have hN0 : ∀ k, w_5.heap.size ≤ k → w.heap.size ≤ k := fun k e => Nat.le_trans S.size e
          have ltD_b_3 := hb_3.lt
          have ltD_b_5 := hb_5.lt
          have szD := Nat.le_refl w_5.heap.size
          have S := S.trans s59
          have hb_3 := hb_3.sub s59
          have hb_5 := hb_5.sub s59
          have szD := Nat.le_trans szD s59.size
          refine RD.take 0 rfl (by kernel_rfl) (by kernel_rfl) (by kernel_rfl) (fun w' s' => .move rfl) rfl rfl ?_
          refine RD.take 1 rfl (by kernel_rfl) (by kernel_rfl) (by kernel_rfl) (fun w' s' => .indexS sl22 rfl rfl (by omega) (hl.is (i := 0) (by simp only [List.length_map, List.length_cons, List.length_nil]; omega))) rfl rfl ?_
          refine RD.take 2 rfl (by kernel_rfl) (by kernel_rfl) (by kernel_rfl) (fun w' s' => .fieldA fo45_0 rfl) rfl rfl ?_
          refine RD.take 3 rfl (by kernel_rfl) (by kernel_rfl) (by kernel_rfl) (fun w' s' => .load1 sh2 rfl ((hl.sub (S.agrN s' hNN)).cell (enc := It.cells) (i := 0) (j := 0) hy rfl)) rfl rfl ?_
          refine RD.take 4 rfl (by kernel_rfl) (by kernel_rfl) (by kernel_rfl) (fun w' s' => .move rfl) rfl rfl ?_
          refine RD.take 5 rfl (by kernel_rfl) (by kernel_rfl) (by kernel_rfl) (fun w' s' => .indexS sl22 rfl rfl (by omega) (hl.is (i := 0) (by simp only [List.length_map, List.length_cons, List.length_nil]; omega))) rfl rfl ?_
          refine RD.take 6 rfl (by kernel_rfl) (by kernel_rfl) (by kernel_rfl) (fun w' s' => .fieldA fo45_1 rfl) rfl rfl ?_
          refine RD.take 7 rfl (by kernel_rfl) (by kernel_rfl) (by kernel_rfl) (fun w' s' => .load1 sh2 rfl ((hl.sub (S.agrN s' hNN)).cell (enc := It.cells) (i := 0) (j := 1) hy rfl)) rfl rfl ?_
          refine RD.take 8 rfl (by kernel_rfl) (by kernel_rfl) (by kernel_rfl) (fun w' s' => .buildS ze39 pl39 rfl rfl) rfl rfl ?_
          refine RD.all [9] (by kernel_rfl) rfl (RDs.cons rfl ?_ (RDs.nil))
          refine RL.alloc ze39 rfl rfl (fun b_9 w_9 e_9 z_9 hb_9 s_9 => ?_)
          have fr_b_9 : w_5.heap.size ≤ b_9 := by rw [e_9]; exact szD
          have ge_9 := S.le e_9
          have n_3__9 := hb_3.ne e_9
          have n_5__9 := hb_5.ne e_9
          have S := S.trans s_9
          have hb_3 := hb_3.sub s_9
          have hb_5 := hb_5.sub s_9
          have szD := Nat.le_trans szD s_9.size
          refine RD.back s_9.agr ?_
          refine RD.all [10] (by kernel_rfl) rfl (RDs.cons rfl ?_ (RDs.nil))
          refine RL.store sh39 rfl rfl rfl hb_9 (by exact Nat.le_of_ble_eq_true rfl) (by rfl) rfl (fun w60 z60 hb_9 a60 => ?_)
          have S := S.upd a60 ge_9
          have hb_3 := hb_3.upd a60 n_3__9
          have hb_5 := hb_5.upd a60 n_5__9
          have szD := Nat.le_trans szD a60.size
          have hb_9 : Has w60 b_9 ([.int .i64 0, .int .i64 y.k, .int .i64 y.v]) _ := hb_9.now (by kernel_rfl)
          refine RD.backW rfl (a60.mono fun k _ e => e ▸ (.inr fr_b_9)) ?_
          refine RD.done (by kernel_rfl) (RC.back ?_)
          refine RC.seq ?_
          refine RC.seq ?_
          refine RC.region rfl ?_
          refine RL.ev (.field0 fo34_1 rfl) rfl rfl ?_
          refine RL.ev (.load1 sh3 rfl (hb_3.cell rfl)) rfl rfl ?_
          refine RL.ev (.bin rfl rfl rfl) rfl rfl ?_
          refine RL.nil (RC.back ?_)
          refine RC.cond_dec rfl (fun h61 => ?_) (fun h61 => ?_)
          ·
            have k68 := h61
            refine RC.region rfl ?_
            refine RL.ev (.move rfl) rfl rfl ?_
            refine RL.ev (.sliceLo sl22 rfl rfl (by omega)) rfl rfl ?_
            refine RL.ev (.assign rfl) rfl rfl ?_
            refine RL.nil (RC.back ?_)
            refine RC.seq ?_
            refine RC.drawD (fun k => k = b_5) [3] w60.heap.size 4 rfl rfl mxo (fun w62 s63 => ?_)
            have hNN : ∀ k, ((k = b_5) ∨ w60.heap.size ≤ k) → w.heap.size ≤ k := fun k e => e.elim (fun e => e ▸ ge_5) (fun e => Nat.le_trans S.size e)
            have ent_S := S.size
            have hN0 : ∀ k, w60.heap.size ≤ k → w.heap.size ≤ k := fun k e => Nat.le_trans S.size e
            have ltD_b_3 := hb_3.lt
            have ltD_b_5 := hb_5.lt
            have ltD_b_9 := hb_9.lt
            have szD := Nat.le_refl w60.heap.size
            have S := S.trans s63
            have hb_3 := hb_3.sub s63
            have hb_5 := hb_5.sub s63
            have hb_9 := hb_9.sub s63
            have szD := Nat.le_trans szD s63.size
            refine RD.take 0 rfl (by kernel_rfl) (by kernel_rfl) (by kernel_rfl) (fun w' s' => .move rfl) rfl rfl ?_
            refine RD.take 1 rfl (by kernel_rfl) (by kernel_rfl) (by kernel_rfl) (fun w' s' => .loadR ([.int .i64 0, .int .i64 y.k, .int .i64 y.v]) sh39 rfl (hb_9.step s' (fun e => e.elim (fun e => n_5__9.symm e) (fun e => Nat.not_le.2 ltD_b_9 e))).row rfl) rfl rfl ?_
            refine RD.take 2 rfl (by kernel_rfl) (by kernel_rfl) (by kernel_rfl) (fun w' s' => .assign rfl) rfl rfl ?_
            refine RD.all [3] (by kernel_rfl) rfl (RDs.cons rfl ?_ (RDs.nil))
            refine RL.store sh39 rfl rfl rfl hb_5 (by exact Nat.le_of_ble_eq_true rfl) (by rfl) rfl (fun w64 z64 hb_5 a64 => ?_)
            have S := S.upd a64 ge_5
            have hb_3 := hb_3.upd a64 n_3__5
            have hb_9 := hb_9.upd a64 n_5__9.symm
            have szD := Nat.le_trans szD a64.size
            have hb_5 : Has w64 b_5 ([.int .i64 0, .int .i64 y.k, .int .i64 y.v]) _ := hb_5.now (by kernel_rfl)
            refine RD.backW rfl (a64.mono fun k _ e => e ▸ (.inl (rfl))) ?_
            refine RD.done (by kernel_rfl) (RC.back ?_)
            refine RC.done (rs := [.tmp 4, .cell 5 39]) (vs := [_, _]) rfl rfl ⟨rfl, ⟨_, rfl, .inr ⟨[.int .i64 0, .int .i64 y.k, .int .i64 y.v], sh39, hb_5.row, rfl⟩⟩, trivial⟩ ?_
            -- end 11
            have he : heapM l o = (l.drop 1, ⟨0, y.k, y.v⟩) := (by rw [heapM, if_neg n10, if_neg n22, if_neg (by omega), if_pos k68, hva])
            rw [he]
            exact ⟨S, _, _, M, by rw [List.length_drop]; rfl, by rw [List.length_drop]; show _ ≤ c - 1; omega, (hF.sub S).imp (fun u h => slDropM h 1 hc), Up.refl _ _⟩
          ·
            have n68 := h61
            refine RC.skip (RC.back ?_)
            refine RC.seq ?_
            refine RC.drawD (fun k => k = b_5) [3] w60.heap.size 4 rfl rfl mxo (fun w65 s66 => ?_)
            have hNN : ∀ k, ((k = b_5) ∨ w60.heap.size ≤ k) → w.heap.size ≤ k := fun k e => e.elim (fun e => e ▸ ge_5) (fun e => Nat.le_trans S.size e)
            have ent_S := S.size
            have hN0 : ∀ k, w60.heap.size ≤ k → w.heap.size ≤ k := fun k e => Nat.le_trans S.size e
            have ltD_b_3 := hb_3.lt
            have ltD_b_5 := hb_5.lt
            have ltD_b_9 := hb_9.lt
            have szD := Nat.le_refl w60.heap.size
            have S := S.trans s66
            have hb_3 := hb_3.sub s66
            have hb_5 := hb_5.sub s66
            have hb_9 := hb_9.sub s66
            have szD := Nat.le_trans szD s66.size
            refine RD.take 0 rfl (by kernel_rfl) (by kernel_rfl) (by kernel_rfl) (fun w' s' => .move rfl) rfl rfl ?_
            refine RD.take 1 rfl (by kernel_rfl) (by kernel_rfl) (by kernel_rfl) (fun w' s' => .loadR ([.int .i64 0, .int .i64 y.k, .int .i64 y.v]) sh39 rfl (hb_9.step s' (fun e => e.elim (fun e => n_5__9.symm e) (fun e => Nat.not_le.2 ltD_b_9 e))).row rfl) rfl rfl ?_
            refine RD.take 2 rfl (by kernel_rfl) (by kernel_rfl) (by kernel_rfl) (fun w' s' => .assign rfl) rfl rfl ?_
            refine RD.all [3] (by kernel_rfl) rfl (RDs.cons rfl ?_ (RDs.nil))
            refine RL.store sh39 rfl rfl rfl hb_5 (by exact Nat.le_of_ble_eq_true rfl) (by rfl) rfl (fun w67 z67 hb_5 a67 => ?_)
            have S := S.upd a67 ge_5
            have hb_3 := hb_3.upd a67 n_3__5
            have hb_9 := hb_9.upd a67 n_5__9.symm
            have szD := Nat.le_trans szD a67.size
            have hb_5 : Has w67 b_5 ([.int .i64 0, .int .i64 y.k, .int .i64 y.v]) _ := hb_5.now (by kernel_rfl)
            refine RD.backW rfl (a67.mono fun k _ e => e ▸ (.inl (rfl))) ?_
            refine RD.done (by kernel_rfl) (RC.back ?_)
            refine RC.done (rs := [.tmp 4, .cell 5 39]) (vs := [_, _]) rfl rfl ⟨rfl, ⟨_, rfl, .inr ⟨[.int .i64 0, .int .i64 y.k, .int .i64 y.v], sh39, hb_5.row, rfl⟩⟩, trivial⟩ ?_
            -- end 12
            have he : heapM l o = (l, ⟨0, y.k, y.v⟩) := (by rw [heapM, if_neg n10, if_neg n22, if_neg (by omega), if_neg n68, hva])
            rw [he]
            exact ⟨S, _, _, M, rfl, hc, hF.sub S, Up.refl _ _⟩
end Go.Proofs.Ytjafbffehmombaa
