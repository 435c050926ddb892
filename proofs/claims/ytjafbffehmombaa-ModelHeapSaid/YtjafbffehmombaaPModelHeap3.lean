/-
  What the law ModelHeap leans on, part 3.
-/
import Derived.Test.YtjafbffehmombaaPModelHeap2
set_option linter.unusedVariables false
set_option linter.unusedSimpArgs false
namespace Go.Proofs.Ytjafbffehmombaa
open Go Go.XL
def whN (l : List It) (x : It) : Nat := (l.takeWhile fun z => decide (lessP z x)).length
theorem whN_of {x : It} : ∀ {l : List It} {n : Nat}, n ≤ l.length → (∀ k z, k < n → l[k]? = some z → lessP z x) → (∀ z, l[n]? = some z → ¬ lessP z x) → whN l x = n
  | [], n, hn, _, _ => by simp at hn; subst hn; rfl
  | y :: l, 0, _, _, h2 => by
    have := h2 y rfl
    unfold whN
    rw [List.takeWhile_cons, decide_eq_false this]; rfl
  | y :: l, n + 1, hn, h1, h2 => by
    have h0 := h1 0 y (by omega) rfl
    have ih := whN_of (l := l) (n := n) (by simpa using hn) (fun k z hk hz => h1 (k + 1) z (by omega) hz) (fun z hz => h2 z hz)
    unfold whN at ih ⊢
    rw [List.takeWhile_cons, decide_eq_true h0]
    simp only [if_true, List.length_cons, ih]
def heapM (l : List It) (o : OpT) : List It × ResT :=
  if o.kind = 6 then (l, ⟨0, l.length, 0⟩)
  else if o.kind = 2 then
    if 200 ≤ l.length then (l, ⟨5, 0, 0⟩) else (l.take (whN l ⟨o.a, o.b⟩) ++ ⟨o.a, o.b⟩ :: l.drop (whN l ⟨o.a, o.b⟩), ⟨0, 0, 0⟩)
  else if l.length = 0 then (l, ⟨3, 0, 0⟩)
  else (if o.kind = 3 then l.drop 1 else l, ⟨0, (valAt l 0).k, (valAt l 0).v⟩)
def SrtH (l : List It) : Prop := ∀ i x y, l[i]? = some x → l[i + 1]? = some y → ¬ lessP y x
theorem SrtH.le {l : List It} (h : SrtH l) : ∀ (d i : Nat) (x y : It), l[i]? = some x → l[i + d]? = some y → ¬ lessP y x
  | 0, i, x, y, hx, hy => by rw [Nat.add_zero, hx] at hy; cases hy; unfold lessP; omega
  | d + 1, i, x, y, hx, hy => by
    obtain ⟨z, hz⟩ := getSome (l := l) (i := i + d) (by have := lt_of_get hy; omega)
    have h1 := SrtH.le h d i x z hx hz
    have h2 := h (i + d) z y hz hy
    unfold lessP at *
    omega
theorem cmpIt_neg {x y : It} : cmpIt x y < 0 ↔ lessP x y := by
  rcases cmpIt_cases x y with ⟨h, e⟩ | ⟨h, e⟩ | ⟨h, e⟩
  · rw [e]; exact ⟨fun _ => h, fun _ => by decide⟩
  · rw [e]; exact ⟨fun h => absurd h (by decide), fun h2 => by unfold lessP at *; omega⟩
  · subst h; rw [e]; exact ⟨fun h => absurd h (by decide), fun h2 => by unfold lessP at *; omega⟩
theorem c_heap (l : List It) (a : Option Addr) (c m : Nat) (hm : m = l.length) (hs : SrtH l) (hl200 : l.length ≤ 200) (hc : l.length ≤ c) (o : OpT) (hok : okP o) (w : World) (M : Nat → Prop) (hF : Ft M (fun u => Sl u a 2 (l.map It.cells)) w) :
    FC Try.prog 67 [.slice a m c, .agg o.cells.toArray] w (fun u w' => AnsP M w w' (heapM l o) u) := by
  subst hm
  have hl := hF.now
  have hk := hok.1
  have hkk : 1 ≤ o.kind ∧ o.kind ≤ 6 := ⟨hk.2.2.1, hk.2.2.2.1⟩
  refine FC.intro Try.func67 rfl Try.ntmps67 rfl ?_
  have S := Sub.refl w
  refine RC.seq ?_
  refine RC.region rfl ?_
  refine RL.box rfl rfl rfl (fun b_3 w_3 e_3 z_3 hb_3 s_3 => ?_)
  have ge_3 := S.le e_3
  have S := S.trans s_3
  have hb_3 : Has w_3 b_3 ([.int .i64 o.box, .int .i64 o.kind, .int .i64 o.a, .int .i64 o.b]) _ := hb_3
  refine RL.ev (.assign rfl) rfl rfl ?_
  refine RL.alloc ze39 rfl rfl (fun b_5 w_5 e_5 z_5 hb_5 s_5 => ?_)
  have ge_5 := S.le e_5
  have n_3__5 := hb_3.ne e_5
  have S := S.trans s_5
  have hb_3 := hb_3.sub s_5
  refine RL.nil (RC.back ?_)
  refine RC.seq ?_
  refine RC.block ?_
  refine RC.seq ?_
  refine RC.region rfl ?_
  refine RL.ev (.field0 fo34_1 rfl) rfl rfl ?_
  refine RL.ev (.load1 sh3 rfl (hb_3.cell rfl)) rfl rfl ?_
  refine RL.ev (.bin rfl rfl rfl) rfl rfl ?_
  refine RL.ev (.assign rfl) rfl rfl ?_
  refine RL.nil (RC.back ?_)
  refine RC.cond_dec rfl (fun h1 => ?_) (fun h1 => ?_)
  ·
    have k10 := h1
    refine RC.seq ?_
    refine RC.region rfl ?_
    refine RL.ev (.move rfl) rfl rfl ?_
    refine RL.ev (.move rfl) rfl rfl ?_
    refine RL.ev (.len sl22 rfl) rfl rfl ?_
    refine RL.ev (.buildS ze39 pl39 rfl rfl) rfl rfl ?_
    refine RL.ev (.assign rfl) rfl rfl ?_
    refine RL.store sh39 rfl rfl rfl hb_5 (by exact Nat.le_of_ble_eq_true rfl) (by rfl) rfl (fun w2 z2 hb_5 a2 => ?_)
    have S := S.upd a2 ge_5
    have hb_3 := hb_3.upd a2 n_3__5
    have hb_5 : Has w2 b_5 ([.int .i64 0, .int .i64 (l.length : Int), .int .i64 0]) _ := hb_5.now (by kernel_rfl)
    refine RL.nil (RC.back ?_)
    refine RC.done (rs := [.tmp 4, .cell 5 39]) (vs := [_, _]) rfl rfl ⟨rfl, ⟨_, rfl, .inr ⟨[.int .i64 0, .int .i64 (l.length : Int), .int .i64 0], sh39, hb_5.row, rfl⟩⟩, trivial⟩ ?_
    -- end 1
    have he : heapM l o = (l, ⟨0, l.length, 0⟩) := (by rw [heapM, if_pos k10])
    rw [he]
    exact ⟨S, _, _, M, rfl, hc, hF.sub S, Up.refl _ _⟩
  ·
    have n10 := h1
    refine RC.seq ?_
    refine RC.region rfl ?_
    refine RL.ev (.field0 fo34_1 rfl) rfl rfl ?_
    refine RL.ev (.load1 sh3 rfl (hb_3.cell rfl)) rfl rfl ?_
    refine RL.ev (.bin rfl rfl rfl) rfl rfl ?_
    refine RL.ev (.move rfl) rfl rfl ?_
    refine RL.split 22 rfl (fun h3 => ?_) (fun h3 => ?_)
    ·
      have k22 := h3
      refine RL.ev (.move rfl) rfl rfl ?_
      refine RL.ev (.len sl22 rfl) rfl rfl ?_
      refine RL.ev (.bin rfl rfl rfl) rfl rfl ?_
      refine RL.ev (.pick_t rfl rfl) rfl rfl ?_
      refine RL.ev (.assign rfl) rfl rfl ?_
      refine RL.nil (RC.back ?_)
      refine RC.cond_dec rfl (fun h4 => ?_) (fun h4 => ?_)
      ·
        have k18 : 200 ≤ l.length := (by omega)
        refine RC.seq ?_
        refine RC.region rfl ?_
        refine RL.ev (.move rfl) rfl rfl ?_
        refine RL.call rfl ok76 (c_full w_5) rfl rfl ?_
        rintro _ w5 ⟨rfl, s6⟩
        have S := S.trans s6
        have hb_3 := hb_3.sub s6
        have hb_5 := hb_5.sub s6
        refine RL.ev (.assign rfl) rfl rfl ?_
        refine RL.store sh39 rfl rfl rfl hb_5 (by exact Nat.le_of_ble_eq_true rfl) (by rfl) rfl (fun w7 z7 hb_5 a7 => ?_)
        have S := S.upd a7 ge_5
        have hb_3 := hb_3.upd a7 n_3__5
        have hb_5 : Has w7 b_5 ([.int .i64 5, .int .i64 0, .int .i64 0]) _ := hb_5.now (by kernel_rfl)
        refine RL.nil (RC.back ?_)
        refine RC.done (rs := [.tmp 4, .cell 5 39]) (vs := [_, _]) rfl rfl ⟨rfl, ⟨_, rfl, .inr ⟨[.int .i64 5, .int .i64 0, .int .i64 0], sh39, hb_5.row, rfl⟩⟩, trivial⟩ ?_
        -- end 2
        have he : heapM l o = (l, ⟨5, 0, 0⟩) := (by rw [heapM, if_neg n10, if_pos k22, if_pos k18])
        rw [he]
        exact ⟨S, _, _, M, rfl, hc, hF.sub S, Up.refl _ _⟩
      ·
        have n18 : ¬ 200 ≤ l.length := (by omega)
        refine RC.seq ?_
        refine RC.region rfl ?_
        refine RL.ev (.field0 fo34_1 rfl) rfl rfl ?_
        refine RL.ev (.load1 sh3 rfl (hb_3.cell rfl)) rfl rfl ?_
        refine RL.ev (.bin rfl rfl rfl) rfl rfl ?_
        refine RL.ev (.assign rfl) rfl rfl ?_
        refine RL.nil (RC.back ?_)
        refine RC.cond_dec rfl (fun h8 => ?_) (fun h8 => ?_)
        ·
          have k29 := h8
          refine RC.seq ?_
          refine RC.region rfl ?_
          refine RL.ev (.field0 fo34_2 rfl) rfl rfl ?_
          refine RL.ev (.load1 sh2 rfl (hb_3.cell rfl)) rfl rfl ?_
          refine RL.ev (.field0 fo34_3 rfl) rfl rfl ?_
          refine RL.ev (.load1 sh2 rfl (hb_3.cell rfl)) rfl rfl ?_
          refine RL.ev (.buildS ze45 pl45 rfl rfl) rfl rfl ?_
          refine RL.alloc ze45 rfl rfl (fun b_6 w_6 e_6 z_6 hb_6 s_6 => ?_)
          have ge_6 := S.le e_6
          have n_3__6 := hb_3.ne e_6
          have n_5__6 := hb_5.ne e_6
          have S := S.trans s_6
          have hb_3 := hb_3.sub s_6
          have hb_5 := hb_5.sub s_6
          refine RL.store sh45 rfl rfl rfl hb_6 (by exact Nat.le_of_ble_eq_true rfl) (by rfl) rfl (fun w9 z9 hb_6 a9 => ?_)
          have S := S.upd a9 ge_6
          have hb_3 := hb_3.upd a9 n_3__6
          have hb_5 := hb_5.upd a9 n_5__6
          have hb_6 : Has w9 b_6 ([.int .i64 o.a, .int .i64 o.b]) _ := hb_6.now (by kernel_rfl)
          refine RL.nil (RC.back ?_)
          refine RC.seq ?_
          refine RC.region rfl ?_
          refine RL.ev (.move rfl) rfl rfl ?_
          refine RL.ev (.loadR ([.int .i64 o.a, .int .i64 o.b]) sh45 rfl hb_6.row rfl) rfl rfl ?_
          refine RL.call rfl ok79 (c_bsf2 44 ok44 ⟨o.a, o.b⟩ (fun x => cmpIt x ⟨o.a, o.b⟩) (fun x w' => c_less x ⟨o.a, o.b⟩ w') l (fun i j x y hij hx hy h => by rw [cmpIt_neg] at h ⊢; obtain ⟨d, rfl⟩ := Nat.le.dest hij; have q := hs.le d i x y hx hy; unfold lessP at *; omega) a c _ rfl w9 (hl.sub S) (by omega)) rfl rfl ?_
          rintro _ w10 ⟨s11, n, hn1, rfl, hn2, hn3⟩
          have S := S.trans s11
          have hb_3 := hb_3.sub s11
          have hb_5 := hb_5.sub s11
          have hb_6 := hb_6.sub s11
          have hwn : whN l ⟨o.a, o.b⟩ = n := whN_of hn1 (fun k z h1 h2 => cmpIt_neg.1 (hn2 k z h1 h2)) (fun z hz h => hn3 n z (Nat.le_refl _) hz (cmpIt_neg.2 h))
          refine RL.ev (.move rfl) rfl rfl ?_
          refine RL.ev (.extract rfl rfl) rfl rfl ?_
          refine RL.ev (.extract rfl rfl) rfl rfl ?_
          refine RL.ev (.assign rfl) rfl rfl ?_
          refine RL.ev (.assign rfl) rfl rfl ?_
          refine RL.nil (RC.back ?_)
          refine RC.seq ?_
          refine RC.drawD (fun k => k = b_5) [5, 8] w10.heap.size 9 rfl rfl mxo (fun w12 s13 => ?_)
          have hNN : ∀ k, ((k = b_5) ∨ w10.heap.size ≤ k) → w.heap.size ≤ k := fun k e => e.elim (fun e => e ▸ ge_5) (fun e => Nat.le_trans S.size e)
          have ent_S := S.size
          have hN0 : ∀ k, w10.heap.size ≤ k → w.heap.size ≤ k := fun k e => Nat.le_trans S.size e
          have ltD_b_3 := hb_3.lt
          have ltD_b_5 := hb_5.lt
          have ltD_b_6 := hb_6.lt
          have szD := Nat.le_refl w10.heap.size
          have S := S.trans s13
          have hb_3 := hb_3.sub s13
          have hb_5 := hb_5.sub s13
          have hb_6 := hb_6.sub s13
          have szD := Nat.le_trans szD s13.size
          refine RD.take 0 rfl (by kernel_rfl) (by kernel_rfl) (by kernel_rfl) (fun w' s' => .move rfl) rfl rfl ?_
          refine RD.take 2 rfl (by kernel_rfl) (by kernel_rfl) (by kernel_rfl) (fun w' s' => .move rfl) rfl rfl ?_
          refine RD.take 3 rfl (by kernel_rfl) (by kernel_rfl) (by kernel_rfl) (fun w' s' => .loadR ([.int .i64 o.a, .int .i64 o.b]) sh45 rfl (hb_6.step s' (fun e => e.elim (fun e => n_5__6.symm e) (fun e => Nat.not_le.2 ltD_b_6 e))).row rfl) rfl rfl ?_
          refine RD.take 6 rfl (by kernel_rfl) (by kernel_rfl) (by kernel_rfl) (fun w' s' => .buildS ze39 pl39 rfl rfl) rfl rfl ?_
          refine RD.all [1, 4] (by kernel_rfl) rfl (RDs.cons rfl ?_ (RDs.cons rfl ?_ (RDs.nil)))
          ·
            refine RL.call rfl ok75 (c_clone l a c _ rfl w12 (hl.sub S) (by omega)) rfl rfl ?_
            rintro _ w14 ⟨a84, c84, rfl, o84, s15⟩
            have lt3 := hb_3.lt
            have lt5 := hb_5.lt
            have lt6 := hb_6.lt
            have szS := S.size
            have szD84 := szD
            have szB84 := s15.size
            have S := S.trans s15
            have hb_3 := hb_3.sub s15
            have hb_5 := hb_5.sub s15
            have hb_6 := hb_6.sub s15
            have szD := Nat.le_trans szD s15.size
            have d84_3 : ∀ k, ob (.slice a84 l.length c84) = some k → k ≠ b_3 := (fun k hk e => by have := (o84.ge k hk).1; omega)
            have d84_5 : ∀ k, ob (.slice a84 l.length c84) = some k → k ≠ b_5 := (fun k hk e => by have := (o84.ge k hk).1; omega)
            have d84_6 : ∀ k, ob (.slice a84 l.length c84) = some k → k ≠ b_6 := (fun k hk e => by have := (o84.ge k hk).1; omega)
            have o84w := o84.whole
            refine RD.back s15.agr ?_
            refine RD.all [4] (by kernel_rfl) rfl (RDs.cons rfl ?_ (RDs.nil))
            refine RL.buildSlice1 sl22 _ ze45 rfl rfl rfl rfl rfl rfl rfl (fun b_48 w_48 e_48 z_48 hb_48 s_48 => ?_)
            have fr_b_48 : w10.heap.size ≤ b_48 := by rw [e_48]; exact szD
            have ge_48 := S.le e_48
            have n_3__48 := hb_3.ne e_48
            have n_5__48 := hb_5.ne e_48
            have n_6__48 := hb_6.ne e_48
            have d_o84_b_48 := o84.neNew e_48
            have S := S.trans s_48
            have hb_3 := hb_3.sub s_48
            have hb_5 := hb_5.sub s_48
            have hb_6 := hb_6.sub s_48
            have szD := Nat.le_trans szD s_48.size
            have szB84 := Nat.le_trans szB84 s_48.size
            have o84 := o84.sub s_48
            refine RD.back s_48.agr ?_
            refine RD.all [5] (by kernel_rfl) rfl (RDs.cons rfl ?_ (RDs.nil))
            refine RL.call rfl ok77 (c_insert l ⟨o.a, o.b⟩ _ a84 c84 b_48 n w_48 o84 szB84 (by rcases o84w with ⟨q, _⟩ | ⟨g, ex, q, _, _, _, q2⟩; injection q with _ _ q; omega; injection q with _ _ q; rw [q]; exact Nat.le_trans q2 (by decide)) (by omega) hn1 hb_48 (by first | exact d_o84_b_48 | exact (fun k hk e => by have := (o84.ge k hk).1; omega))) rfl rfl ?_
            rintro _ w16 ⟨a88', c88', M88, rfl, hc88, hF88, hM88, a49⟩
            have S := S.agrN a49 (fun k e => Nat.le_trans szS (o84.ge k e).1)
            have hb_3 := hb_3.step a49 (fun e => d84_3 _ e rfl)
            have hb_5 := hb_5.step a49 (fun e => d84_5 _ e rfl)
            have hb_6 := hb_6.step a49 (fun e => d84_6 _ e rfl)
            have szD := Nat.le_trans szD a49.size
            have d88_5 : ∀ k, M88 k → k ≠ b_5 := (fun k hk e => by have := hM88 k hk; omega)
            have d88_3 : ∀ k, M88 k → k ≠ b_3 := (fun k hk e => by have := hM88 k hk; omega)
            have d88_6 : ∀ k, M88 k → k ≠ b_6 := (fun k hk e => by have := hM88 k hk; omega)
            refine RD.backW rfl (a49.mono fun k _ e => .inr (Nat.le_trans szD84 (o84.ge k e).1)) ?_
            refine RD.take 7 rfl (by kernel_rfl) (by kernel_rfl) (by kernel_rfl) (fun w' s' => .assign rfl) rfl rfl ?_
            refine RD.all [8] (by kernel_rfl) rfl (RDs.cons rfl ?_ (RDs.nil))
            refine RL.store sh39 rfl rfl rfl hb_5 (by exact Nat.le_of_ble_eq_true rfl) (by rfl) rfl (fun w18 z18 hb_5 a18 => ?_)
            have S := S.upd a18 ge_5
            have hb_3 := hb_3.upd a18 n_3__5
            have hb_6 := hb_6.upd a18 n_5__6.symm
            have szD := Nat.le_trans szD a18.size
            have hF88 := hF88.updD a18 d88_5
            have hb_5 : Has w18 b_5 ([.int .i64 0, .int .i64 0, .int .i64 0]) _ := hb_5.now (by kernel_rfl)
            refine RD.backW rfl (a18.mono fun k _ e => e ▸ (.inl (rfl))) ?_
            refine RD.done (by kernel_rfl) (RC.back ?_)
            refine RC.done (rs := [.tmp 4, .cell 5 39]) (vs := [_, _]) rfl rfl ⟨rfl, ⟨_, rfl, .inr ⟨[.int .i64 0, .int .i64 0, .int .i64 0], sh39, hb_5.row, rfl⟩⟩, trivial⟩ ?_
            -- end 3
            have he : heapM l o = (l.take n ++ ⟨o.a, o.b⟩ :: l.drop n, ⟨0, 0, 0⟩) := (by rw [heapM, if_neg n10, if_pos k22, if_neg n18, hwn])
            rw [he]
            exact ⟨S, _, _, M88, by rw [show (l.take n ++ (⟨o.a, o.b⟩ : It) :: l.drop n).length = l.length + 1 from by rw [List.length_append, List.length_cons, List.length_take, List.length_drop]; omega]; rfl, by rw [show (l.take n ++ (⟨o.a, o.b⟩ : It) :: l.drop n).length = l.length + 1 from by rw [List.length_append, List.length_cons, List.length_take, List.length_drop]; omega]; exact hc88, hF88, fun k hk => .inr (Nat.le_trans szS (hM88 k hk))⟩
          ·
            refine RL.buildSlice1 sl22 _ ze45 rfl rfl rfl rfl rfl rfl rfl (fun b_48 w_48 e_48 z_48 hb_48 s_48 => ?_)
            have fr_b_48 : w10.heap.size ≤ b_48 := by rw [e_48]; exact szD
            have ge_48 := S.le e_48
            have n_3__48 := hb_3.ne e_48
            have n_5__48 := hb_5.ne e_48
            have n_6__48 := hb_6.ne e_48
            have S := S.trans s_48
            have hb_3 := hb_3.sub s_48
            have hb_5 := hb_5.sub s_48
            have hb_6 := hb_6.sub s_48
            have szD := Nat.le_trans szD s_48.size
            refine RD.back s_48.agr ?_
            refine RD.all [1] (by kernel_rfl) rfl (RDs.cons rfl ?_ (RDs.nil))
            refine RL.call rfl ok75 (c_clone l a c _ rfl w_48 (hl.sub S) (by omega)) rfl rfl ?_
            rintro _ w19 ⟨a84, c84, rfl, o84, s20⟩
            have lt3 := hb_3.lt
            have lt5 := hb_5.lt
            have lt6 := hb_6.lt
            have szS := S.size
            have szD84 := szD
            have szB84 := s20.size
            have S := S.trans s20
            have hb_3 := hb_3.sub s20
            have hb_5 := hb_5.sub s20
            have hb_6 := hb_6.sub s20
            have szD := Nat.le_trans szD s20.size
            have hb_48 := hb_48.sub s20
            have d84_3 : ∀ k, ob (.slice a84 l.length c84) = some k → k ≠ b_3 := (fun k hk e => by have := (o84.ge k hk).1; omega)
            have d84_5 : ∀ k, ob (.slice a84 l.length c84) = some k → k ≠ b_5 := (fun k hk e => by have := (o84.ge k hk).1; omega)
            have d84_6 : ∀ k, ob (.slice a84 l.length c84) = some k → k ≠ b_6 := (fun k hk e => by have := (o84.ge k hk).1; omega)
            have o84w := o84.whole
            refine RD.back s20.agr ?_
            refine RD.all [5] (by kernel_rfl) rfl (RDs.cons rfl ?_ (RDs.nil))
            refine RL.call rfl ok77 (c_insert l ⟨o.a, o.b⟩ _ a84 c84 b_48 n w19 o84 szB84 (by rcases o84w with ⟨q, _⟩ | ⟨g, ex, q, _, _, _, q2⟩; injection q with _ _ q; omega; injection q with _ _ q; rw [q]; exact Nat.le_trans q2 (by decide)) (by omega) hn1 hb_48 (by first | exact d_o84_b_48 | exact (fun k hk e => by have := (o84.ge k hk).1; omega))) rfl rfl ?_
            rintro _ w21 ⟨a88', c88', M88, rfl, hc88, hF88, hM88, a49⟩
            have S := S.agrN a49 (fun k e => Nat.le_trans szS (o84.ge k e).1)
            have hb_3 := hb_3.step a49 (fun e => d84_3 _ e rfl)
            have hb_5 := hb_5.step a49 (fun e => d84_5 _ e rfl)
            have hb_6 := hb_6.step a49 (fun e => d84_6 _ e rfl)
            have szD := Nat.le_trans szD a49.size
            have d88_5 : ∀ k, M88 k → k ≠ b_5 := (fun k hk e => by have := hM88 k hk; omega)
            have d88_3 : ∀ k, M88 k → k ≠ b_3 := (fun k hk e => by have := hM88 k hk; omega)
            have d88_6 : ∀ k, M88 k → k ≠ b_6 := (fun k hk e => by have := hM88 k hk; omega)
            refine RD.backW rfl (a49.mono fun k _ e => .inr (Nat.le_trans szD84 (o84.ge k e).1)) ?_
            refine RD.take 7 rfl (by kernel_rfl) (by kernel_rfl) (by kernel_rfl) (fun w' s' => .assign rfl) rfl rfl ?_
            refine RD.all [8] (by kernel_rfl) rfl (RDs.cons rfl ?_ (RDs.nil))
            refine RL.store sh39 rfl rfl rfl hb_5 (by exact Nat.le_of_ble_eq_true rfl) (by rfl) rfl (fun w23 z23 hb_5 a23 => ?_)
            have S := S.upd a23 ge_5
            have hb_3 := hb_3.upd a23 n_3__5
            have hb_6 := hb_6.upd a23 n_5__6.symm
            have szD := Nat.le_trans szD a23.size
            have hF88 := hF88.updD a23 d88_5
            have hb_5 : Has w23 b_5 ([.int .i64 0, .int .i64 0, .int .i64 0]) _ := hb_5.now (by kernel_rfl)
            refine RD.backW rfl (a23.mono fun k _ e => e ▸ (.inl (rfl))) ?_
            refine RD.done (by kernel_rfl) (RC.back ?_)
            refine RC.done (rs := [.tmp 4, .cell 5 39]) (vs := [_, _]) rfl rfl ⟨rfl, ⟨_, rfl, .inr ⟨[.int .i64 0, .int .i64 0, .int .i64 0], sh39, hb_5.row, rfl⟩⟩, trivial⟩ ?_
            -- end 4
            have he : heapM l o = (l.take n ++ ⟨o.a, o.b⟩ :: l.drop n, ⟨0, 0, 0⟩) := (by rw [heapM, if_neg n10, if_pos k22, if_neg n18, hwn])
            rw [he]
            exact ⟨S, _, _, M88, by rw [show (l.take n ++ (⟨o.a, o.b⟩ : It) :: l.drop n).length = l.length + 1 from by rw [List.length_append, List.length_cons, List.length_take, List.length_drop]; omega]; rfl, by rw [show (l.take n ++ (⟨o.a, o.b⟩ : It) :: l.drop n).length = l.length + 1 from by rw [List.length_append, List.length_cons, List.length_take, List.length_drop]; omega]; exact hc88, hF88, fun k hk => .inr (Nat.le_trans szS (hM88 k hk))⟩
        ·
          have n29 := h8
          refine RC.seq ?_
          refine RC.region rfl ?_
          refine RL.ev (.move rfl) rfl rfl ?_
          refine RL.ev (.len sl22 rfl) rfl rfl ?_
          refine RL.ev (.bin rfl rfl rfl) rfl rfl ?_
          refine RL.ev (.assign rfl) rfl rfl ?_
          refine RL.nil (RC.back ?_)
          refine RC.cond_dec rfl (fun h24 => ?_) (fun h24 => ?_)
          ·
            have k51 : l.length = 0 := (by omega)
            refine RC.seq ?_
            refine RC.region rfl ?_
            refine RL.ev (.move rfl) rfl rfl ?_
            refine RL.call rfl ok73 (c_none w_5) rfl rfl ?_
            rintro _ w25 ⟨rfl, s26⟩
            have S := S.trans s26
            have hb_3 := hb_3.sub s26
            have hb_5 := hb_5.sub s26
            refine RL.ev (.assign rfl) rfl rfl ?_
            refine RL.store sh39 rfl rfl rfl hb_5 (by exact Nat.le_of_ble_eq_true rfl) (by rfl) rfl (fun w27 z27 hb_5 a27 => ?_)
            have S := S.upd a27 ge_5
            have hb_3 := hb_3.upd a27 n_3__5
            have hb_5 : Has w27 b_5 ([.int .i64 3, .int .i64 0, .int .i64 0]) _ := hb_5.now (by kernel_rfl)
            refine RL.nil (RC.back ?_)
            refine RC.done (rs := [.tmp 4, .cell 5 39]) (vs := [_, _]) rfl rfl ⟨rfl, ⟨_, rfl, .inr ⟨[.int .i64 3, .int .i64 0, .int .i64 0], sh39, hb_5.row, rfl⟩⟩, trivial⟩ ?_
            -- end 5
            exact absurd k22 n29
          ·
            have n51 : 0 < l.length := (by omega)
            obtain ⟨y, hy⟩ := getSome (l := l) (i := 0) n51
            have hva := valAt_get hy
            refine RC.skip (RC.back ?_)
            refine RC.seq ?_
            refine RC.drawD (fun k => False) [10] w_5.heap.size 11 rfl rfl mxo (fun w28 s29 => ?_)
            have hNN : ∀ k, ((False) ∨ w_5.heap.size ≤ k) → w.heap.size ≤ k := fun k e => e.elim (fun e => e.elim) (fun e => Nat.le_trans S.size e)
            have ent_S := S.size
            have hN0 : ∀ k, w_5.heap.size ≤ k → w.heap.size ≤ k := fun k e => Nat.le_trans S.size e
            have ltD_b_3 := hb_3.lt
            have ltD_b_5 := hb_5.lt
            have szD := Nat.le_refl w_5.heap.size
            have S := S.trans s29
            have hb_3 := hb_3.sub s29
            have hb_5 := hb_5.sub s29
            have szD := Nat.le_trans szD s29.size
            refine RD.take 0 rfl (by kernel_rfl) (by kernel_rfl) (by kernel_rfl) (fun w' s' => .move rfl) rfl rfl ?_
            refine RD.take 1 rfl (by kernel_rfl) (by kernel_rfl) (by kernel_rfl) (fun w' s' => .indexS sl22 rfl rfl (by omega) (hl.is (i := 0) (by simp only [List.length_map, List.length_cons, List.length_nil]; omega))) rfl rfl ?_
            refine RD.take 2 rfl (by kernel_rfl) (by kernel_rfl) (by kernel_rfl) (fun w' s' => .fieldA fo45_0 rfl) rfl rfl ?_
            refine RD.take 3 rfl (by kernel_rfl) (by kernel_rfl) (by kernel_rfl) (fun w' s' => .load1 sh2 rfl ((hl.sub (S.agrN s' hNN)).cell (enc := It.cells) (i := 0) (j := 0) hy rfl)) rfl rfl ?_
            refine RD.take 4 rfl (by kernel_rfl) (by kernel_rfl) (by kernel_rfl) (fun w' s' => .move rfl) rfl rfl ?_
            refine RD.take 5 rfl (by kernel_rfl) (by kernel_rfl) (by kernel_rfl) (fun w' s' => .indexS sl22 rfl rfl (by omega) (hl.is (i := 0) (by simp only [List.length_map, List.length_cons, List.length_nil]; omega))) rfl rfl ?_
            refine RD.take 6 rfl (by kernel_rfl) (by kernel_rfl) (by kernel_rfl) (fun w' s' => .fieldA fo45_1 rfl) rfl rfl ?_
            refine RD.take 7 rfl (by kernel_rfl) (by kernel_rfl) (by kernel_rfl) (fun w' s' => .load1 sh2 rfl ((hl.sub (S.agrN s' hNN)).cell (enc := It.cells) (i := 0) (j := 1) hy rfl)) rfl rfl ?_
            refine RD.take 8 rfl (by kernel_rfl) (by kernel_rfl) (by kernel_rfl) (fun w' s' => .buildS ze39 pl39 rfl rfl) rfl rfl ?_
            refine RD.all [9] (by kernel_rfl) rfl (RDs.cons rfl ?_ (RDs.nil))
            refine RL.alloc ze39 rfl rfl (fun b_9 w_9 e_9 z_9 hb_9 s_9 => ?_)
            have fr_b_9 : w_5.heap.size ≤ b_9 := by rw [e_9]; exact szD
            have ge_9 := S.le e_9
            have n_3__9 := hb_3.ne e_9
            have n_5__9 := hb_5.ne e_9
            have S := S.trans s_9
            have hb_3 := hb_3.sub s_9
            have hb_5 := hb_5.sub s_9
            have szD := Nat.le_trans szD s_9.size
            refine RD.back s_9.agr ?_
            refine RD.all [10] (by kernel_rfl) rfl (RDs.cons rfl ?_ (RDs.nil))
            refine RL.store sh39 rfl rfl rfl hb_9 (by exact Nat.le_of_ble_eq_true rfl) (by rfl) rfl (fun w30 z30 hb_9 a30 => ?_)
            have S := S.upd a30 ge_9
            have hb_3 := hb_3.upd a30 n_3__9
            have hb_5 := hb_5.upd a30 n_5__9
            have szD := Nat.le_trans szD a30.size
            have hb_9 : Has w30 b_9 ([.int .i64 0, .int .i64 y.k, .int .i64 y.v]) _ := hb_9.now (by kernel_rfl)
            refine RD.backW rfl (a30.mono fun k _ e => e ▸ (.inr fr_b_9)) ?_
            refine RD.done (by kernel_rfl) (RC.back ?_)
            refine RC.seq ?_
            refine RC.seq ?_
            refine RC.region rfl ?_
            refine RL.ev (.field0 fo34_1 rfl) rfl rfl ?_
            refine RL.ev (.load1 sh3 rfl (hb_3.cell rfl)) rfl rfl ?_
            refine RL.ev (.bin rfl rfl rfl) rfl rfl ?_
            refine RL.nil (RC.back ?_)
            refine RC.cond_dec rfl (fun h31 => ?_) (fun h31 => ?_)
            ·
              have k68 := h31
              refine RC.region rfl ?_
              refine RL.ev (.move rfl) rfl rfl ?_
              refine RL.ev (.sliceLo sl22 rfl rfl (by omega)) rfl rfl ?_
              refine RL.ev (.assign rfl) rfl rfl ?_
              refine RL.nil (RC.back ?_)
              refine RC.seq ?_
              refine RC.drawD (fun k => k = b_5) [3] w30.heap.size 4 rfl rfl mxo (fun w32 s33 => ?_)
              have hNN : ∀ k, ((k = b_5) ∨ w30.heap.size ≤ k) → w.heap.size ≤ k := fun k e => e.elim (fun e => e ▸ ge_5) (fun e => Nat.le_trans S.size e)
              have ent_S := S.size
              have hN0 : ∀ k, w30.heap.size ≤ k → w.heap.size ≤ k := fun k e => Nat.le_trans S.size e
              have ltD_b_3 := hb_3.lt
              have ltD_b_5 := hb_5.lt
              have ltD_b_9 := hb_9.lt
              have szD := Nat.le_refl w30.heap.size
              have S := S.trans s33
              have hb_3 := hb_3.sub s33
              have hb_5 := hb_5.sub s33
              have hb_9 := hb_9.sub s33
              have szD := Nat.le_trans szD s33.size
              refine RD.take 0 rfl (by kernel_rfl) (by kernel_rfl) (by kernel_rfl) (fun w' s' => .move rfl) rfl rfl ?_
              refine RD.take 1 rfl (by kernel_rfl) (by kernel_rfl) (by kernel_rfl) (fun w' s' => .loadR ([.int .i64 0, .int .i64 y.k, .int .i64 y.v]) sh39 rfl (hb_9.step s' (fun e => e.elim (fun e => n_5__9.symm e) (fun e => Nat.not_le.2 ltD_b_9 e))).row rfl) rfl rfl ?_
              refine RD.take 2 rfl (by kernel_rfl) (by kernel_rfl) (by kernel_rfl) (fun w' s' => .assign rfl) rfl rfl ?_
              refine RD.all [3] (by kernel_rfl) rfl (RDs.cons rfl ?_ (RDs.nil))
              refine RL.store sh39 rfl rfl rfl hb_5 (by exact Nat.le_of_ble_eq_true rfl) (by rfl) rfl (fun w34 z34 hb_5 a34 => ?_)
              have S := S.upd a34 ge_5
              have hb_3 := hb_3.upd a34 n_3__5
              have hb_9 := hb_9.upd a34 n_5__9.symm
              have szD := Nat.le_trans szD a34.size
              have hb_5 : Has w34 b_5 ([.int .i64 0, .int .i64 y.k, .int .i64 y.v]) _ := hb_5.now (by kernel_rfl)
              refine RD.backW rfl (a34.mono fun k _ e => e ▸ (.inl (rfl))) ?_
              refine RD.done (by kernel_rfl) (RC.back ?_)
              refine RC.done (rs := [.tmp 4, .cell 5 39]) (vs := [_, _]) rfl rfl ⟨rfl, ⟨_, rfl, .inr ⟨[.int .i64 0, .int .i64 y.k, .int .i64 y.v], sh39, hb_5.row, rfl⟩⟩, trivial⟩ ?_
              -- end 6
              exact absurd k22 n29
            ·
              have n68 := h31
              refine RC.skip (RC.back ?_)
              refine RC.seq ?_
              refine RC.drawD (fun k => k = b_5) [3] w30.heap.size 4 rfl rfl mxo (fun w35 s36 => ?_)
              have hNN : ∀ k, ((k = b_5) ∨ w30.heap.size ≤ k) → w.heap.size ≤ k := fun k e => e.elim (fun e => e ▸ ge_5) (fun e => Nat.le_trans S.size e)
              have ent_S := S.size
              have hN0 : ∀ k, w30.heap.size ≤ k → w.heap.size ≤ k := fun k e => Nat.le_trans S.size e
              have ltD_b_3 := hb_3.lt
              have ltD_b_5 := hb_5.lt
              have ltD_b_9 := hb_9.lt
              have szD := Nat.le_refl w30.heap.size
              have S := S.trans s36
              have hb_3 := hb_3.sub s36
              have hb_5 := hb_5.sub s36
              have hb_9 := hb_9.sub s36
              have szD := Nat.le_trans szD s36.size
              refine RD.take 0 rfl (by kernel_rfl) (by kernel_rfl) (by kernel_rfl) (fun w' s' => .move rfl) rfl rfl ?_
              refine RD.take 1 rfl (by kernel_rfl) (by kernel_rfl) (by kernel_rfl) (fun w' s' => .loadR ([.int .i64 0, .int .i64 y.k, .int .i64 y.v]) sh39 rfl (hb_9.step s' (fun e => e.elim (fun e => n_5__9.symm e) (fun e => Nat.not_le.2 ltD_b_9 e))).row rfl) rfl rfl ?_
              refine RD.take 2 rfl (by kernel_rfl) (by kernel_rfl) (by kernel_rfl) (fun w' s' => .assign rfl) rfl rfl ?_
              refine RD.all [3] (by kernel_rfl) rfl (RDs.cons rfl ?_ (RDs.nil))
              refine RL.store sh39 rfl rfl rfl hb_5 (by exact Nat.le_of_ble_eq_true rfl) (by rfl) rfl (fun w37 z37 hb_5 a37 => ?_)
              have S := S.upd a37 ge_5
              have hb_3 := hb_3.upd a37 n_3__5
              have hb_9 := hb_9.upd a37 n_5__9.symm
              have szD := Nat.le_trans szD a37.size
              have hb_5 : Has w37 b_5 ([.int .i64 0, .int .i64 y.k, .int .i64 y.v]) _ := hb_5.now (by kernel_rfl)
              refine RD.backW rfl (a37.mono fun k _ e => e ▸ (.inl (rfl))) ?_
              refine RD.done (by kernel_rfl) (RC.back ?_)
              refine RC.done (rs := [.tmp 4, .cell 5 39]) (vs := [_, _]) rfl rfl ⟨rfl, ⟨_, rfl, .inr ⟨[.int .i64 0, .int .i64 y.k, .int .i64 y.v], sh39, hb_5.row, rfl⟩⟩, trivial⟩ ?_
              -- end 7
              exact absurd k22 n29
    ·
      have n22 := h3
      refine RL.off rfl rfl ?_
      refine RL.off rfl rfl ?_
      refine RL.off rfl rfl ?_
      refine RL.ev (.pick_f rfl rfl) rfl rfl ?_
      refine RL.ev (.assign rfl) rfl rfl ?_
      refine RL.nil (RC.back ?_)
      refine RC.cond_f rfl ?_
      refine RC.seq ?_
      refine RC.region rfl ?_
      refine RL.ev (.field0 fo34_1 rfl) rfl rfl ?_
      refine RL.ev (.load1 sh3 rfl (hb_3.cell rfl)) rfl rfl ?_
      refine RL.ev (.bin rfl rfl rfl) rfl rfl ?_
      refine RL.ev (.assign rfl) rfl rfl ?_
      refine RL.nil (RC.back ?_)
      refine RC.cond_dec rfl (fun h38 => ?_) (fun h38 => ?_)
      ·
        have k29 := h38
        refine RC.seq ?_
        refine RC.region rfl ?_
        refine RL.ev (.field0 fo34_2 rfl) rfl rfl ?_
        refine RL.ev (.load1 sh2 rfl (hb_3.cell rfl)) rfl rfl ?_
        refine RL.ev (.field0 fo34_3 rfl) rfl rfl ?_
        refine RL.ev (.load1 sh2 rfl (hb_3.cell rfl)) rfl rfl ?_
        refine RL.ev (.buildS ze45 pl45 rfl rfl) rfl rfl ?_
        refine RL.alloc ze45 rfl rfl (fun b_6 w_6 e_6 z_6 hb_6 s_6 => ?_)
        have ge_6 := S.le e_6
        have n_3__6 := hb_3.ne e_6
        have n_5__6 := hb_5.ne e_6
        have S := S.trans s_6
        have hb_3 := hb_3.sub s_6
        have hb_5 := hb_5.sub s_6
        refine RL.store sh45 rfl rfl rfl hb_6 (by exact Nat.le_of_ble_eq_true rfl) (by rfl) rfl (fun w39 z39 hb_6 a39 => ?_)
        have S := S.upd a39 ge_6
        have hb_3 := hb_3.upd a39 n_3__6
        have hb_5 := hb_5.upd a39 n_5__6
        have hb_6 : Has w39 b_6 ([.int .i64 o.a, .int .i64 o.b]) _ := hb_6.now (by kernel_rfl)
        refine RL.nil (RC.back ?_)
        refine RC.seq ?_
        refine RC.region rfl ?_
        refine RL.ev (.move rfl) rfl rfl ?_
        refine RL.ev (.loadR ([.int .i64 o.a, .int .i64 o.b]) sh45 rfl hb_6.row rfl) rfl rfl ?_
        refine RL.call rfl ok79 (c_bsf2 44 ok44 ⟨o.a, o.b⟩ (fun x => cmpIt x ⟨o.a, o.b⟩) (fun x w' => c_less x ⟨o.a, o.b⟩ w') l (fun i j x y hij hx hy h => by rw [cmpIt_neg] at h ⊢; obtain ⟨d, rfl⟩ := Nat.le.dest hij; have q := hs.le d i x y hx hy; unfold lessP at *; omega) a c _ rfl w39 (hl.sub S) (by omega)) rfl rfl ?_
        rintro _ w40 ⟨s41, n, hn1, rfl, hn2, hn3⟩
        have S := S.trans s41
        have hb_3 := hb_3.sub s41
        have hb_5 := hb_5.sub s41
        have hb_6 := hb_6.sub s41
        have hwn : whN l ⟨o.a, o.b⟩ = n := whN_of hn1 (fun k z h1 h2 => cmpIt_neg.1 (hn2 k z h1 h2)) (fun z hz h => hn3 n z (Nat.le_refl _) hz (cmpIt_neg.2 h))
        refine RL.ev (.move rfl) rfl rfl ?_
        refine RL.ev (.extract rfl rfl) rfl rfl ?_
        refine RL.ev (.extract rfl rfl) rfl rfl ?_
        refine RL.ev (.assign rfl) rfl rfl ?_
        refine RL.ev (.assign rfl) rfl rfl ?_
        refine RL.nil (RC.back ?_)
        refine RC.seq ?_
        refine RC.drawD (fun k => k = b_5) [5, 8] w40.heap.size 9 rfl rfl mxo (fun w42 s43 => ?_)
        have hNN : ∀ k, ((k = b_5) ∨ w40.heap.size ≤ k) → w.heap.size ≤ k := fun k e => e.elim (fun e => e ▸ ge_5) (fun e => Nat.le_trans S.size e)
        have ent_S := S.size
        have hN0 : ∀ k, w40.heap.size ≤ k → w.heap.size ≤ k := fun k e => Nat.le_trans S.size e
        have ltD_b_3 := hb_3.lt
        have ltD_b_5 := hb_5.lt
        have ltD_b_6 := hb_6.lt
        have szD := Nat.le_refl w40.heap.size
        have S := S.trans s43
        have hb_3 := hb_3.sub s43
        have hb_5 := hb_5.sub s43
        have hb_6 := hb_6.sub s43
        have szD := Nat.le_trans szD s43.size
        refine RD.take 0 rfl (by kernel_rfl) (by kernel_rfl) (by kernel_rfl) (fun w' s' => .move rfl) rfl rfl ?_
        refine RD.take 2 rfl (by kernel_rfl) (by kernel_rfl) (by kernel_rfl) (fun w' s' => .move rfl) rfl rfl ?_
        refine RD.take 3 rfl (by kernel_rfl) (by kernel_rfl) (by kernel_rfl) (fun w' s' => .loadR ([.int .i64 o.a, .int .i64 o.b]) sh45 rfl (hb_6.step s' (fun e => e.elim (fun e => n_5__6.symm e) (fun e => Nat.not_le.2 ltD_b_6 e))).row rfl) rfl rfl ?_
        refine RD.take 6 rfl (by kernel_rfl) (by kernel_rfl) (by kernel_rfl) (fun w' s' => .buildS ze39 pl39 rfl rfl) rfl rfl ?_
        refine RD.all [1, 4] (by kernel_rfl) rfl (RDs.cons rfl ?_ (RDs.cons rfl ?_ (RDs.nil)))
        ·
          refine RL.call rfl ok75 (c_clone l a c _ rfl w42 (hl.sub S) (by omega)) rfl rfl ?_
          rintro _ w44 ⟨a84, c84, rfl, o84, s45⟩
          have lt3 := hb_3.lt
          have lt5 := hb_5.lt
          have lt6 := hb_6.lt
          have szS := S.size
          have szD84 := szD
          have szB84 := s45.size
          have S := S.trans s45
          have hb_3 := hb_3.sub s45
          have hb_5 := hb_5.sub s45
          have hb_6 := hb_6.sub s45
          have szD := Nat.le_trans szD s45.size
          have d84_3 : ∀ k, ob (.slice a84 l.length c84) = some k → k ≠ b_3 := (fun k hk e => by have := (o84.ge k hk).1; omega)
          have d84_5 : ∀ k, ob (.slice a84 l.length c84) = some k → k ≠ b_5 := (fun k hk e => by have := (o84.ge k hk).1; omega)
          have d84_6 : ∀ k, ob (.slice a84 l.length c84) = some k → k ≠ b_6 := (fun k hk e => by have := (o84.ge k hk).1; omega)
          have o84w := o84.whole
          refine RD.back s45.agr ?_
          refine RD.all [4] (by kernel_rfl) rfl (RDs.cons rfl ?_ (RDs.nil))
          refine RL.buildSlice1 sl22 _ ze45 rfl rfl rfl rfl rfl rfl rfl (fun b_48 w_48 e_48 z_48 hb_48 s_48 => ?_)
          have fr_b_48 : w40.heap.size ≤ b_48 := by rw [e_48]; exact szD
          have ge_48 := S.le e_48
          have n_3__48 := hb_3.ne e_48
          have n_5__48 := hb_5.ne e_48
          have n_6__48 := hb_6.ne e_48
          have d_o84_b_48 := o84.neNew e_48
          have S := S.trans s_48
          have hb_3 := hb_3.sub s_48
          have hb_5 := hb_5.sub s_48
          have hb_6 := hb_6.sub s_48
          have szD := Nat.le_trans szD s_48.size
          have szB84 := Nat.le_trans szB84 s_48.size
          have o84 := o84.sub s_48
          refine RD.back s_48.agr ?_
          refine RD.all [5] (by kernel_rfl) rfl (RDs.cons rfl ?_ (RDs.nil))
          refine RL.call rfl ok77 (c_insert l ⟨o.a, o.b⟩ _ a84 c84 b_48 n w_48 o84 szB84 (by rcases o84w with ⟨q, _⟩ | ⟨g, ex, q, _, _, _, q2⟩; injection q with _ _ q; omega; injection q with _ _ q; rw [q]; exact Nat.le_trans q2 (by decide)) (by omega) hn1 hb_48 (by first | exact d_o84_b_48 | exact (fun k hk e => by have := (o84.ge k hk).1; omega))) rfl rfl ?_
          rintro _ w46 ⟨a88', c88', M88, rfl, hc88, hF88, hM88, a49⟩
          have S := S.agrN a49 (fun k e => Nat.le_trans szS (o84.ge k e).1)
          have hb_3 := hb_3.step a49 (fun e => d84_3 _ e rfl)
          have hb_5 := hb_5.step a49 (fun e => d84_5 _ e rfl)
          have hb_6 := hb_6.step a49 (fun e => d84_6 _ e rfl)
          have szD := Nat.le_trans szD a49.size
          have d88_5 : ∀ k, M88 k → k ≠ b_5 := (fun k hk e => by have := hM88 k hk; omega)
          have d88_3 : ∀ k, M88 k → k ≠ b_3 := (fun k hk e => by have := hM88 k hk; omega)
          have d88_6 : ∀ k, M88 k → k ≠ b_6 := (fun k hk e => by have := hM88 k hk; omega)
          refine RD.backW rfl (a49.mono fun k _ e => .inr (Nat.le_trans szD84 (o84.ge k e).1)) ?_
          refine RD.take 7 rfl (by kernel_rfl) (by kernel_rfl) (by kernel_rfl) (fun w' s' => .assign rfl) rfl rfl ?_
          refine RD.all [8] (by kernel_rfl) rfl (RDs.cons rfl ?_ (RDs.nil))
          refine RL.store sh39 rfl rfl rfl hb_5 (by exact Nat.le_of_ble_eq_true rfl) (by rfl) rfl (fun w48 z48 hb_5 a48 => ?_)
          have S := S.upd a48 ge_5
          have hb_3 := hb_3.upd a48 n_3__5
          have hb_6 := hb_6.upd a48 n_5__6.symm
          have szD := Nat.le_trans szD a48.size
          have hF88 := hF88.updD a48 d88_5
          have hb_5 : Has w48 b_5 ([.int .i64 0, .int .i64 0, .int .i64 0]) _ := hb_5.now (by kernel_rfl)
          refine RD.backW rfl (a48.mono fun k _ e => e ▸ (.inl (rfl))) ?_
          refine RD.done (by kernel_rfl) (RC.back ?_)
          refine RC.done (rs := [.tmp 4, .cell 5 39]) (vs := [_, _]) rfl rfl ⟨rfl, ⟨_, rfl, .inr ⟨[.int .i64 0, .int .i64 0, .int .i64 0], sh39, hb_5.row, rfl⟩⟩, trivial⟩ ?_
          -- end 8
          exact absurd k29 n22
        ·
          refine RL.buildSlice1 sl22 _ ze45 rfl rfl rfl rfl rfl rfl rfl (fun b_48 w_48 e_48 z_48 hb_48 s_48 => ?_)
          have fr_b_48 : w40.heap.size ≤ b_48 := by rw [e_48]; exact szD
          have ge_48 := S.le e_48
          have n_3__48 := hb_3.ne e_48
          have n_5__48 := hb_5.ne e_48
          have n_6__48 := hb_6.ne e_48
          have S := S.trans s_48
          have hb_3 := hb_3.sub s_48
          have hb_5 := hb_5.sub s_48
          have hb_6 := hb_6.sub s_48
          have szD := Nat.le_trans szD s_48.size
          refine RD.back s_48.agr ?_
          refine RD.all [1] (by kernel_rfl) rfl (RDs.cons rfl ?_ (RDs.nil))
          refine RL.call rfl ok75 (c_clone l a c _ rfl w_48 (hl.sub S) (by omega)) rfl rfl ?_
          rintro _ w49 ⟨a84, c84, rfl, o84, s50⟩
          have lt3 := hb_3.lt
          have lt5 := hb_5.lt
          have lt6 := hb_6.lt
          have szS := S.size
          have szD84 := szD
          have szB84 := s50.size
          have S := S.trans s50
          have hb_3 := hb_3.sub s50
          have hb_5 := hb_5.sub s50
          have hb_6 := hb_6.sub s50
          have szD := Nat.le_trans szD s50.size
          have hb_48 := hb_48.sub s50
          have d84_3 : ∀ k, ob (.slice a84 l.length c84) = some k → k ≠ b_3 := (fun k hk e => by have := (o84.ge k hk).1; omega)
          have d84_5 : ∀ k, ob (.slice a84 l.length c84) = some k → k ≠ b_5 := (fun k hk e => by have := (o84.ge k hk).1; omega)
          have d84_6 : ∀ k, ob (.slice a84 l.length c84) = some k → k ≠ b_6 := (fun k hk e => by have := (o84.ge k hk).1; omega)
          have o84w := o84.whole
          refine RD.back s50.agr ?_
          refine RD.all [5] (by kernel_rfl) rfl (RDs.cons rfl ?_ (RDs.nil))
          refine RL.call rfl ok77 (c_insert l ⟨o.a, o.b⟩ _ a84 c84 b_48 n w49 o84 szB84 (by rcases o84w with ⟨q, _⟩ | ⟨g, ex, q, _, _, _, q2⟩; injection q with _ _ q; omega; injection q with _ _ q; rw [q]; exact Nat.le_trans q2 (by decide)) (by omega) hn1 hb_48 (by first | exact d_o84_b_48 | exact (fun k hk e => by have := (o84.ge k hk).1; omega))) rfl rfl ?_
          rintro _ w51 ⟨a88', c88', M88, rfl, hc88, hF88, hM88, a49⟩
          have S := S.agrN a49 (fun k e => Nat.le_trans szS (o84.ge k e).1)
          have hb_3 := hb_3.step a49 (fun e => d84_3 _ e rfl)
          have hb_5 := hb_5.step a49 (fun e => d84_5 _ e rfl)
          have hb_6 := hb_6.step a49 (fun e => d84_6 _ e rfl)
          have szD := Nat.le_trans szD a49.size
          have d88_5 : ∀ k, M88 k → k ≠ b_5 := (fun k hk e => by have := hM88 k hk; omega)
          have d88_3 : ∀ k, M88 k → k ≠ b_3 := (fun k hk e => by have := hM88 k hk; omega)
          have d88_6 : ∀ k, M88 k → k ≠ b_6 := (fun k hk e => by have := hM88 k hk; omega)
          refine RD.backW rfl (a49.mono fun k _ e => .inr (Nat.le_trans szD84 (o84.ge k e).1)) ?_
          refine RD.take 7 rfl (by kernel_rfl) (by kernel_rfl) (by kernel_rfl) (fun w' s' => .assign rfl) rfl rfl ?_
          refine RD.all [8] (by kernel_rfl) rfl (RDs.cons rfl ?_ (RDs.nil))
          refine RL.store sh39 rfl rfl rfl hb_5 (by exact Nat.le_of_ble_eq_true rfl) (by rfl) rfl (fun w53 z53 hb_5 a53 => ?_)
          have S := S.upd a53 ge_5
          have hb_3 := hb_3.upd a53 n_3__5
          have hb_6 := hb_6.upd a53 n_5__6.symm
          have szD := Nat.le_trans szD a53.size
          have hF88 := hF88.updD a53 d88_5
          have hb_5 : Has w53 b_5 ([.int .i64 0, .int .i64 0, .int .i64 0]) _ := hb_5.now (by kernel_rfl)
          refine RD.backW rfl (a53.mono fun k _ e => e ▸ (.inl (rfl))) ?_
          refine RD.done (by kernel_rfl) (RC.back ?_)
          refine RC.done (rs := [.tmp 4, .cell 5 39]) (vs := [_, _]) rfl rfl ⟨rfl, ⟨_, rfl, .inr ⟨[.int .i64 0, .int .i64 0, .int .i64 0], sh39, hb_5.row, rfl⟩⟩, trivial⟩ ?_
          -- end 9
          exact absurd k29 n22
      ·
        have n29 := h38
        refine RC.seq ?_
        refine RC.region rfl ?_
        refine RL.ev (.move rfl) rfl rfl ?_
        refine RL.ev (.len sl22 rfl) rfl rfl ?_
        refine RL.ev (.bin rfl rfl rfl) rfl rfl ?_
        refine RL.ev (.assign rfl) rfl rfl ?_
        refine RL.nil (RC.back ?_)
        refine RC.cond_dec rfl (fun h54 => ?_) (fun h54 => ?_)
        ·
          have k51 : l.length = 0 := (by omega)
          refine RC.seq ?_
          refine RC.region rfl ?_
          refine RL.ev (.move rfl) rfl rfl ?_
          refine RL.call rfl ok73 (c_none w_5) rfl rfl ?_
          rintro _ w55 ⟨rfl, s56⟩
          have S := S.trans s56
          have hb_3 := hb_3.sub s56
          have hb_5 := hb_5.sub s56
          refine RL.ev (.assign rfl) rfl rfl ?_
          refine RL.store sh39 rfl rfl rfl hb_5 (by exact Nat.le_of_ble_eq_true rfl) (by rfl) rfl (fun w57 z57 hb_5 a57 => ?_)
          have S := S.upd a57 ge_5
          have hb_3 := hb_3.upd a57 n_3__5
          have hb_5 : Has w57 b_5 ([.int .i64 3, .int .i64 0, .int .i64 0]) _ := hb_5.now (by kernel_rfl)
          refine RL.nil (RC.back ?_)
          refine RC.done (rs := [.tmp 4, .cell 5 39]) (vs := [_, _]) rfl rfl ⟨rfl, ⟨_, rfl, .inr ⟨[.int .i64 3, .int .i64 0, .int .i64 0], sh39, hb_5.row, rfl⟩⟩, trivial⟩ ?_
          -- end 10
          have he : heapM l o = (l, ⟨3, 0, 0⟩) := (by rw [heapM, if_neg n10, if_neg n22, if_pos k51])
          rw [he]
          exact ⟨S, _, _, M, rfl, hc, hF.sub S, Up.refl _ _⟩
        ·
          have n51 : 0 < l.length := (by omega)
          obtain ⟨y, hy⟩ := getSome (l := l) (i := 0) n51
          have hva := valAt_get hy
          refine RC.skip (RC.back ?_)
          refine RC.seq ?_
          refine RC.drawD (fun k => False) [10] w_5.heap.size 11 rfl rfl mxo (fun w58 s59 => ?_)
          have hNN : ∀ k, ((False) ∨ w_5.heap.size ≤ k) → w.heap.size ≤ k := fun k e => e.elim (fun e => e.elim) (fun e => Nat.le_trans S.size e)
          have ent_S := S.size
          have hN0 : ∀ k, w_5.heap.size ≤ k → w.heap.size ≤ k := fun k e => Nat.le_trans S.size e
          have ltD_b_3 := hb_3.lt
          have ltD_b_5 := hb_5.lt
          have szD := Nat.le_refl w_5.heap.size
          have S := S.trans s59
          have hb_3 := hb_3.sub s59
          have hb_5 := hb_5.sub s59
          have szD := Nat.le_trans szD s59.size
          refine RD.take 0 rfl (by kernel_rfl) (by kernel_rfl) (by kernel_rfl) (fun w' s' => .move rfl) rfl rfl ?_
          refine RD.take 1 rfl (by kernel_rfl) (by kernel_rfl) (by kernel_rfl) (fun w' s' => .indexS sl22 rfl rfl (by omega) (hl.is (i := 0) (by simp only [List.length_map, List.length_cons, List.length_nil]; omega))) rfl rfl ?_
          refine RD.take 2 rfl (by kernel_rfl) (by kernel_rfl) (by kernel_rfl) (fun w' s' => .fieldA fo45_0 rfl) rfl rfl ?_
          refine RD.take 3 rfl (by kernel_rfl) (by kernel_rfl) (by kernel_rfl) (fun w' s' => .load1 sh2 rfl ((hl.sub (S.agrN s' hNN)).cell (enc := It.cells) (i := 0) (j := 0) hy rfl)) rfl rfl ?_
          refine RD.take 4 rfl (by kernel_rfl) (by kernel_rfl) (by kernel_rfl) (fun w' s' => .move rfl) rfl rfl ?_
          refine RD.take 5 rfl (by kernel_rfl) (by kernel_rfl) (by kernel_rfl) (fun w' s' => .indexS sl22 rfl rfl (by omega) (hl.is (i := 0) (by simp only [List.length_map, List.length_cons, List.length_nil]; omega))) rfl rfl ?_
          refine RD.take 6 rfl (by kernel_rfl) (by kernel_rfl) (by kernel_rfl) (fun w' s' => .fieldA fo45_1 rfl) rfl rfl ?_
          refine RD.take 7 rfl (by kernel_rfl) (by kernel_rfl) (by kernel_rfl) (fun w' s' => .load1 sh2 rfl ((hl.sub (S.agrN s' hNN)).cell (enc := It.cells) (i := 0) (j := 1) hy rfl)) rfl rfl ?_
          refine RD.take 8 rfl (by kernel_rfl) (by kernel_rfl) (by kernel_rfl) (fun w' s' => .buildS ze39 pl39 rfl rfl) rfl rfl ?_
          refine RD.all [9] (by kernel_rfl) rfl (RDs.cons rfl ?_ (RDs.nil))
          refine RL.alloc ze39 rfl rfl (fun b_9 w_9 e_9 z_9 hb_9 s_9 => ?_)
          have fr_b_9 : w_5.heap.size ≤ b_9 := by rw [e_9]; exact szD
          have ge_9 := S.le e_9
          have n_3__9 := hb_3.ne e_9
          have n_5__9 := hb_5.ne e_9
          have S := S.trans s_9
          have hb_3 := hb_3.sub s_9
          have hb_5 := hb_5.sub s_9
          have szD := Nat.le_trans szD s_9.size
          refine RD.back s_9.agr ?_
          refine RD.all [10] (by kernel_rfl) rfl (RDs.cons rfl ?_ (RDs.nil))
          refine RL.store sh39 rfl rfl rfl hb_9 (by exact Nat.le_of_ble_eq_true rfl) (by rfl) rfl (fun w60 z60 hb_9 a60 => ?_)
          have S := S.upd a60 ge_9
          have hb_3 := hb_3.upd a60 n_3__9
          have hb_5 := hb_5.upd a60 n_5__9
          have szD := Nat.le_trans szD a60.size
          have hb_9 : Has w60 b_9 ([.int .i64 0, .int .i64 y.k, .int .i64 y.v]) _ := hb_9.now (by kernel_rfl)
          refine RD.backW rfl (a60.mono fun k _ e => e ▸ (.inr fr_b_9)) ?_
          refine RD.done (by kernel_rfl) (RC.back ?_)
          refine RC.seq ?_
          refine RC.seq ?_
          refine RC.region rfl ?_
          refine RL.ev (.field0 fo34_1 rfl) rfl rfl ?_
          refine RL.ev (.load1 sh3 rfl (hb_3.cell rfl)) rfl rfl ?_
          refine RL.ev (.bin rfl rfl rfl) rfl rfl ?_
          refine RL.nil (RC.back ?_)
          refine RC.cond_dec rfl (fun h61 => ?_) (fun h61 => ?_)
          ·
            have k68 := h61
            refine RC.region rfl ?_
            refine RL.ev (.move rfl) rfl rfl ?_
            refine RL.ev (.sliceLo sl22 rfl rfl (by omega)) rfl rfl ?_
            refine RL.ev (.assign rfl) rfl rfl ?_
            refine RL.nil (RC.back ?_)
            refine RC.seq ?_
            refine RC.drawD (fun k => k = b_5) [3] w60.heap.size 4 rfl rfl mxo (fun w62 s63 => ?_)
            have hNN : ∀ k, ((k = b_5) ∨ w60.heap.size ≤ k) → w.heap.size ≤ k := fun k e => e.elim (fun e => e ▸ ge_5) (fun e => Nat.le_trans S.size e)
            have ent_S := S.size
            have hN0 : ∀ k, w60.heap.size ≤ k → w.heap.size ≤ k := fun k e => Nat.le_trans S.size e
            have ltD_b_3 := hb_3.lt
            have ltD_b_5 := hb_5.lt
            have ltD_b_9 := hb_9.lt
            have szD := Nat.le_refl w60.heap.size
            have S := S.trans s63
            have hb_3 := hb_3.sub s63
            have hb_5 := hb_5.sub s63
            have hb_9 := hb_9.sub s63
            have szD := Nat.le_trans szD s63.size
            refine RD.take 0 rfl (by kernel_rfl) (by kernel_rfl) (by kernel_rfl) (fun w' s' => .move rfl) rfl rfl ?_
            refine RD.take 1 rfl (by kernel_rfl) (by kernel_rfl) (by kernel_rfl) (fun w' s' => .loadR ([.int .i64 0, .int .i64 y.k, .int .i64 y.v]) sh39 rfl (hb_9.step s' (fun e => e.elim (fun e => n_5__9.symm e) (fun e => Nat.not_le.2 ltD_b_9 e))).row rfl) rfl rfl ?_
            refine RD.take 2 rfl (by kernel_rfl) (by kernel_rfl) (by kernel_rfl) (fun w' s' => .assign rfl) rfl rfl ?_
            refine RD.all [3] (by kernel_rfl) rfl (RDs.cons rfl ?_ (RDs.nil))
            refine RL.store sh39 rfl rfl rfl hb_5 (by exact Nat.le_of_ble_eq_true rfl) (by rfl) rfl (fun w64 z64 hb_5 a64 => ?_)
            have S := S.upd a64 ge_5
            have hb_3 := hb_3.upd a64 n_3__5
            have hb_9 := hb_9.upd a64 n_5__9.symm
            have szD := Nat.le_trans szD a64.size
            have hb_5 : Has w64 b_5 ([.int .i64 0, .int .i64 y.k, .int .i64 y.v]) _ := hb_5.now (by kernel_rfl)
            refine RD.backW rfl (a64.mono fun k _ e => e ▸ (.inl (rfl))) ?_
            refine RD.done (by kernel_rfl) (RC.back ?_)
            refine RC.done (rs := [.tmp 4, .cell 5 39]) (vs := [_, _]) rfl rfl ⟨rfl, ⟨_, rfl, .inr ⟨[.int .i64 0, .int .i64 y.k, .int .i64 y.v], sh39, hb_5.row, rfl⟩⟩, trivial⟩ ?_
            -- end 11
            have he : heapM l o = (l.drop 1, ⟨0, y.k, y.v⟩) := (by rw [heapM, if_neg n10, if_neg n22, if_neg (by omega), if_pos k68, hva])
            rw [he]
            exact ⟨S, _, _, M, by rw [List.length_drop]; rfl, by rw [List.length_drop]; show _ ≤ c - 1; omega, (hF.sub S).imp (fun u h => slDropM h 1 hc), Up.refl _ _⟩
          ·
            have n68 := h61
            refine RC.skip (RC.back ?_)
            refine RC.seq ?_
            refine RC.drawD (fun k => k = b_5) [3] w60.heap.size 4 rfl rfl mxo (fun w65 s66 => ?_)
            have hNN : ∀ k, ((k = b_5) ∨ w60.heap.size ≤ k) → w.heap.size ≤ k := fun k e => e.elim (fun e => e ▸ ge_5) (fun e => Nat.le_trans S.size e)
            have ent_S := S.size
            have hN0 : ∀ k, w60.heap.size ≤ k → w.heap.size ≤ k := fun k e => Nat.le_trans S.size e
            have ltD_b_3 := hb_3.lt
            have ltD_b_5 := hb_5.lt
            have ltD_b_9 := hb_9.lt
            have szD := Nat.le_refl w60.heap.size
            have S := S.trans s66
            have hb_3 := hb_3.sub s66
            have hb_5 := hb_5.sub s66
            have hb_9 := hb_9.sub s66
            have szD := Nat.le_trans szD s66.size
            refine RD.take 0 rfl (by kernel_rfl) (by kernel_rfl) (by kernel_rfl) (fun w' s' => .move rfl) rfl rfl ?_
            refine RD.take 1 rfl (by kernel_rfl) (by kernel_rfl) (by kernel_rfl) (fun w' s' => .loadR ([.int .i64 0, .int .i64 y.k, .int .i64 y.v]) sh39 rfl (hb_9.step s' (fun e => e.elim (fun e => n_5__9.symm e) (fun e => Nat.not_le.2 ltD_b_9 e))).row rfl) rfl rfl ?_
            refine RD.take 2 rfl (by kernel_rfl) (by kernel_rfl) (by kernel_rfl) (fun w' s' => .assign rfl) rfl rfl ?_
            refine RD.all [3] (by kernel_rfl) rfl (RDs.cons rfl ?_ (RDs.nil))
            refine RL.store sh39 rfl rfl rfl hb_5 (by exact Nat.le_of_ble_eq_true rfl) (by rfl) rfl (fun w67 z67 hb_5 a67 => ?_)
            have S := S.upd a67 ge_5
            have hb_3 := hb_3.upd a67 n_3__5
            have hb_9 := hb_9.upd a67 n_5__9.symm
            have szD := Nat.le_trans szD a67.size
            have hb_5 : Has w67 b_5 ([.int .i64 0, .int .i64 y.k, .int .i64 y.v]) _ := hb_5.now (by kernel_rfl)
            refine RD.backW rfl (a67.mono fun k _ e => e ▸ (.inl (rfl))) ?_
            refine RD.done (by kernel_rfl) (RC.back ?_)
            refine RC.done (rs := [.tmp 4, .cell 5 39]) (vs := [_, _]) rfl rfl ⟨rfl, ⟨_, rfl, .inr ⟨[.int .i64 0, .int .i64 y.k, .int .i64 y.v], sh39, hb_5.row, rfl⟩⟩, trivial⟩ ?_
            -- end 12
            have he : heapM l o = (l, ⟨0, y.k, y.v⟩) := (by rw [heapM, if_neg n10, if_neg n22, if_neg (by omega), if_neg n68, hva])
            rw [he]
            exact ⟨S, _, _, M, rfl, hc, hF.sub S, Up.refl _ _⟩
end Go.Proofs.Ytjafbffehmombaa
set_option linter.unusedVariables false
set_option linter.unusedSimpArgs false
namespace Go.Proofs.Ytjafbffehmombaa
open Go Go.XL
theorem c_boxes (w : World) : FC Try.prog 50 [] w (Val (.agg #[.func (.func 61) #[] #[], .func (.func 63) #[] #[], .func (.func 64) #[] #[], .func (.func 66) #[] #[]]) w) := by
  refine FC.intro Try.func50 rfl Try.ntmps50 rfl ?_
  have S := Sub.refl w
  refine RC.seq ?_
  refine RC.region rfl ?_
  refine RL.alloc ze82 rfl rfl (fun b_0 w_0 e_0 z_0 hb_0 s_0 => ?_)
  have ge_0 := S.le e_0
  have S := S.trans s_0
  refine RL.nil (RC.back ?_)
  refine RC.seq ?_
  refine RC.region rfl ?_
  refine RL.ev (.buildA ze82 ar82 rfl rfl) rfl rfl ?_
  refine RL.store sh82 rfl rfl rfl hb_0 (by exact Nat.le_of_ble_eq_true rfl) (by rfl) rfl (fun w1 z1 hb_0 a1 => ?_)
  have S := S.upd a1 ge_0
  have hb_0 : Has w1 b_0 ([.func (.func 61) #[] #[], .func (.func 63) #[] #[], .func (.func 64) #[] #[], .func (.func 66) #[] #[]]) _ := hb_0.now (by kernel_rfl)
  refine RL.nil (RC.back ?_)
  refine RC.done (rs := [.cell 0 82]) (vs := [_]) rfl rfl ⟨⟨_, rfl, .inr ⟨[.func (.func 61) #[] #[], .func (.func 63) #[] #[], .func (.func 64) #[] #[], .func (.func 66) #[] #[]], sh82, hb_0.row, rfl⟩⟩, trivial⟩ ?_
  -- end 1
  exact ⟨rfl, S⟩
theorem c_box1 (b : Nat) (p : Ph) (m : Mo) (hs : Srt m.map) (hl200 : m.map.length ≤ 200) (hc : m.map.length ≤ p.c1) (o : OpT) (hok : okP o) (w : World) (M : Nat → Prop) (hF : Ft M (fun u => Sl u p.a1 2 (m.map.map It.cells)) w) (hb : Has w b (moC p m) 25) (hn : ∀ k, M k → k ≠ b) :
    FC Try.prog 61 [.pointer (some ⟨b, 0, none⟩), .agg o.cells.toArray] w (fun u w' => ∃ a' c' M', u = .agg (pairsM m.map o).2.cells.toArray ∧ (pairsM m.map o).1.length ≤ c' ∧ Ft M' (fun u => Sl u a' 2 ((pairsM m.map o).1.map It.cells)) w' ∧ Up M w M' ∧ Has w' b [.slice a' (pairsM m.map o).1.length c', .slice p.a2 m.tab.length p.c2, .slice p.a3 m.row.length p.c3, .slice p.a4 m.heap.length p.c4] 25 ∧ Agr (· = b) w w') := by
  have G : Agr (· = b) w w := Agr.refl _ _
  refine FC.intro Try.func61 rfl Try.ntmps61 rfl ?_
  have ltb := hb.lt
  refine RC.seq ?_
  refine RC.region rfl ?_
  refine RL.box rfl rfl rfl (fun b_3 w_3 e_3 z_3 hb_3 s_3 => ?_)
  have n__3 := hb.ne e_3
  have d_hF_b_3 := hF.neNew e_3
  have hb := hb.sub s_3
  have hF := hF.sub s_3
  have geG_3 := agLe G e_3
  have G := G.trans s_3.agr
  have hb_3 : Has w_3 b_3 ([.int .i64 o.box, .int .i64 o.kind, .int .i64 o.a, .int .i64 o.b]) _ := hb_3
  refine RL.alloc ze39 rfl rfl (fun b_4 w_4 e_4 z_4 hb_4 s_4 => ?_)
  have n__4 := hb.ne e_4
  have n_3__4 := hb_3.ne e_4
  have d_hF_b_4 := hF.neNew e_4
  have hb := hb.sub s_4
  have hF := hF.sub s_4
  have geG_4 := agLe G e_4
  have G := G.trans s_4.agr
  have hb_3 := hb_3.sub s_4
  refine RL.nil (RC.back ?_)
  refine RC.seq ?_
  refine RC.drawD (fun k => False) [11] w_4.heap.size 12 rfl rfl mxo (fun w1 s2 => ?_)
  have ltD_b := hb.lt
  have ltD_hF := fun k hk => (hF.ge k hk).2
  have ltD_b_3 := hb_3.lt
  have ltD_b_4 := hb_4.lt
  have szD := Nat.le_refl w_4.heap.size
  have hb := hb.sub s2
  have hF := hF.sub s2
  have G := G.trans s2.agr
  have hb_3 := hb_3.sub s2
  have hb_4 := hb_4.sub s2
  have szD := Nat.le_trans szD s2.size
  refine RD.take 0 rfl (by kernel_rfl) (by kernel_rfl) (by kernel_rfl) (fun w' s' => .move rfl) rfl rfl ?_
  refine RD.take 1 rfl (by kernel_rfl) (by kernel_rfl) (by kernel_rfl) (fun w' s' => .nilCheck rfl) rfl rfl ?_
  refine RD.take 2 rfl (by kernel_rfl) (by kernel_rfl) (by kernel_rfl) (fun w' s' => .field0 fo25_0 rfl) rfl rfl ?_
  refine RD.take 3 rfl (by kernel_rfl) (by kernel_rfl) (by kernel_rfl) (fun w' s' => .load1 sh22 rfl ((hb.step s' (fun e => e.elim (fun e => e.elim) (fun e => Nat.not_le.2 ltD_b e))).cell rfl)) rfl rfl ?_
  refine RD.take 4 rfl (by kernel_rfl) (by kernel_rfl) (by kernel_rfl) (fun w' s' => .loadR ([.int .i64 o.box, .int .i64 o.kind, .int .i64 o.a, .int .i64 o.b]) sh34 rfl (hb_3.step s' (fun e => e.elim (fun e => e.elim) (fun e => Nat.not_le.2 ltD_b_3 e))).row rfl) rfl rfl ?_
  refine RD.all [5, 9] (by kernel_rfl) rfl (RDs.cons rfl ?_ (RDs.cons rfl ?_ (RDs.nil)))
  ·
    refine RL.call rfl ok62 (c_pairs m.map p.a1 p.c1 _ rfl hs hl200 hc o hok w1 M hF) rfl rfl ?_
    rintro _ w3 ⟨s4, a', c', M', rfl, hc', hF', hup⟩
    have d_hF'_b := upNe hup hn hb.lt
    have d_hF'_b_3 := upNe hup d_hF_b_3 hb_3.lt
    have d_hF'_b_4 := upNe hup d_hF_b_4 hb_4.lt
    have hup := hup.le G.size
    have hb := hb.sub s4
    have hF := hF.sub s4
    have G := G.trans s4.agr
    have hb_3 := hb_3.sub s4
    have hb_4 := hb_4.sub s4
    have szD := Nat.le_trans szD s4.size
    refine RD.back s4.agr ?_
    refine RD.take 6 rfl (by kernel_rfl) (by kernel_rfl) (by kernel_rfl) (fun w' s' => .move rfl) rfl rfl ?_
    refine RD.take 7 rfl (by kernel_rfl) (by kernel_rfl) (by kernel_rfl) (fun w' s' => .extract rfl rfl) rfl rfl ?_
    refine RD.take 8 rfl (by kernel_rfl) (by kernel_rfl) (by kernel_rfl) (fun w' s' => .extract rfl rfl) rfl rfl ?_
    refine RD.all [9] (by kernel_rfl) rfl (RDs.cons rfl ?_ (RDs.nil))
    refine RL.alloc ze39 rfl rfl (fun b_6 w_6 e_6 z_6 hb_6 s_6 => ?_)
    have fr_b_6 : w_4.heap.size ≤ b_6 := by rw [e_6]; exact szD
    have n__6 := hb.ne e_6
    have n_3__6 := hb_3.ne e_6
    have n_4__6 := hb_4.ne e_6
    have d_hF'_b_6 := hF'.neNew e_6
    have hb := hb.sub s_6
    have geG_6 := agLe G e_6
    have G := G.trans s_6.agr
    have hb_3 := hb_3.sub s_6
    have hb_4 := hb_4.sub s_6
    have szD := Nat.le_trans szD s_6.size
    have hF' := hF'.sub s_6
    refine RD.back s_6.agr ?_
    refine RD.take 10 rfl (by kernel_rfl) (by kernel_rfl) (by kernel_rfl) (fun w' s' => .assign rfl) rfl rfl ?_
    refine RD.all [11] (by kernel_rfl) rfl (RDs.cons rfl ?_ (RDs.nil))
    refine RL.store sh39 rfl rfl rfl hb_6 (by exact Nat.le_of_ble_eq_true rfl) (by rfl) rfl (fun w5 z5 hb_6 a5 => ?_)
    have hb := hb.upd a5 n__6
    have G := agNew G a5 geG_6
    have hb_3 := hb_3.upd a5 n_3__6
    have hb_4 := hb_4.upd a5 n_4__6
    have szD := Nat.le_trans szD a5.size
    have hF' := hF'.updD a5 d_hF'_b_6
    have hb_6 : Has w5 b_6 ([.int .i64 (pairsM m.map o).2.e, .int .i64 (pairsM m.map o).2.a, .int .i64 (pairsM m.map o).2.b]) _ := hb_6.now (by kernel_rfl)
    refine RD.backW rfl (a5.mono fun k _ e => e ▸ (.inr fr_b_6)) ?_
    refine RD.done (by kernel_rfl) (RC.back ?_)
    refine RC.seq ?_
    refine RC.region rfl ?_
    refine RL.ev (.move rfl) rfl rfl ?_
    refine RL.ev (.move rfl) rfl rfl ?_
    refine RL.ev (.nilCheck rfl) rfl rfl ?_
    refine RL.ev (.field0 fo25_0 rfl) rfl rfl ?_
    refine RL.store sh22 rfl rfl rfl hb (by exact Nat.le_of_ble_eq_true rfl) (by rfl) rfl (fun w6 z6 hb a6 => ?_)
    have G := G.trans a6
    have hb_3 := hb_3.upd a6 n__3.symm
    have hb_4 := hb_4.upd a6 n__4.symm
    have hF' := hF'.updD a6 d_hF'_b
    have hb_6 := hb_6.upd a6 n__6.symm
    have hb : Has w6 b ([.slice a' (pairsM m.map o).1.length c', .slice p.a2 m.tab.length p.c2, .slice p.a3 m.row.length p.c3, .slice p.a4 m.heap.length p.c4]) _ := hb
    refine RL.nil (RC.back ?_)
    refine RC.seq ?_
    refine RC.region rfl ?_
    refine RL.ev (.loadR ([.int .i64 (pairsM m.map o).2.e, .int .i64 (pairsM m.map o).2.a, .int .i64 (pairsM m.map o).2.b]) sh39 rfl hb_6.row rfl) rfl rfl ?_
    refine RL.store sh39 rfl rfl rfl hb_4 (by exact Nat.le_of_ble_eq_true rfl) (by rfl) rfl (fun w7 z7 hb_4 a7 => ?_)
    have hb := hb.upd a7 n__4
    have G := agNew G a7 geG_4
    have hb_3 := hb_3.upd a7 n_3__4
    have hF' := hF'.updD a7 d_hF'_b_4
    have hb_6 := hb_6.upd a7 n_4__6.symm
    have hb_4 : Has w7 b_4 ([.int .i64 (pairsM m.map o).2.e, .int .i64 (pairsM m.map o).2.a, .int .i64 (pairsM m.map o).2.b]) _ := hb_4.now (by kernel_rfl)
    refine RL.nil (RC.back ?_)
    refine RC.done (rs := [.cell 4 39]) (vs := [_]) rfl rfl ⟨⟨_, rfl, .inr ⟨[.int .i64 (pairsM m.map o).2.e, .int .i64 (pairsM m.map o).2.a, .int .i64 (pairsM m.map o).2.b], sh39, hb_4.row, rfl⟩⟩, trivial⟩ ?_
    -- end 1
    exact ⟨a', c', M', rfl, hc', hF', hup, hb, G⟩
  ·
    refine RL.alloc ze39 rfl rfl (fun b_6 w_6 e_6 z_6 hb_6 s_6 => ?_)
    have fr_b_6 : w_4.heap.size ≤ b_6 := by rw [e_6]; exact szD
    have n__6 := hb.ne e_6
    have n_3__6 := hb_3.ne e_6
    have n_4__6 := hb_4.ne e_6
    have d_hF_b_6 := hF.neNew e_6
    have hb := hb.sub s_6
    have hF := hF.sub s_6
    have geG_6 := agLe G e_6
    have G := G.trans s_6.agr
    have hb_3 := hb_3.sub s_6
    have hb_4 := hb_4.sub s_6
    have szD := Nat.le_trans szD s_6.size
    refine RD.back s_6.agr ?_
    refine RD.all [5] (by kernel_rfl) rfl (RDs.cons rfl ?_ (RDs.nil))
    refine RL.call rfl ok62 (c_pairs m.map p.a1 p.c1 _ rfl hs hl200 hc o hok w_6 M hF) rfl rfl ?_
    rintro _ w8 ⟨s9, a', c', M', rfl, hc', hF', hup⟩
    have d_hF'_b := upNe hup hn hb.lt
    have d_hF'_b_3 := upNe hup d_hF_b_3 hb_3.lt
    have d_hF'_b_4 := upNe hup d_hF_b_4 hb_4.lt
    have d_hF'_b_6 := upNe hup d_hF_b_6 hb_6.lt
    have hup := hup.le G.size
    have hb := hb.sub s9
    have hF := hF.sub s9
    have G := G.trans s9.agr
    have hb_3 := hb_3.sub s9
    have hb_4 := hb_4.sub s9
    have szD := Nat.le_trans szD s9.size
    have hb_6 := hb_6.sub s9
    refine RD.back s9.agr ?_
    refine RD.take 6 rfl (by kernel_rfl) (by kernel_rfl) (by kernel_rfl) (fun w' s' => .move rfl) rfl rfl ?_
    refine RD.take 7 rfl (by kernel_rfl) (by kernel_rfl) (by kernel_rfl) (fun w' s' => .extract rfl rfl) rfl rfl ?_
    refine RD.take 8 rfl (by kernel_rfl) (by kernel_rfl) (by kernel_rfl) (fun w' s' => .extract rfl rfl) rfl rfl ?_
    refine RD.take 10 rfl (by kernel_rfl) (by kernel_rfl) (by kernel_rfl) (fun w' s' => .assign rfl) rfl rfl ?_
    refine RD.all [11] (by kernel_rfl) rfl (RDs.cons rfl ?_ (RDs.nil))
    refine RL.store sh39 rfl rfl rfl hb_6 (by exact Nat.le_of_ble_eq_true rfl) (by rfl) rfl (fun w10 z10 hb_6 a10 => ?_)
    have hb := hb.upd a10 n__6
    have G := agNew G a10 geG_6
    have hb_3 := hb_3.upd a10 n_3__6
    have hb_4 := hb_4.upd a10 n_4__6
    have szD := Nat.le_trans szD a10.size
    have hF' := hF'.updD a10 d_hF'_b_6
    have hb_6 : Has w10 b_6 ([.int .i64 (pairsM m.map o).2.e, .int .i64 (pairsM m.map o).2.a, .int .i64 (pairsM m.map o).2.b]) _ := hb_6.now (by kernel_rfl)
    refine RD.backW rfl (a10.mono fun k _ e => e ▸ (.inr fr_b_6)) ?_
    refine RD.done (by kernel_rfl) (RC.back ?_)
    refine RC.seq ?_
    refine RC.region rfl ?_
    refine RL.ev (.move rfl) rfl rfl ?_
    refine RL.ev (.move rfl) rfl rfl ?_
    refine RL.ev (.nilCheck rfl) rfl rfl ?_
    refine RL.ev (.field0 fo25_0 rfl) rfl rfl ?_
    refine RL.store sh22 rfl rfl rfl hb (by exact Nat.le_of_ble_eq_true rfl) (by rfl) rfl (fun w11 z11 hb a11 => ?_)
    have G := G.trans a11
    have hb_3 := hb_3.upd a11 n__3.symm
    have hb_4 := hb_4.upd a11 n__4.symm
    have hb_6 := hb_6.upd a11 n__6.symm
    have hF' := hF'.updD a11 d_hF'_b
    have hb : Has w11 b ([.slice a' (pairsM m.map o).1.length c', .slice p.a2 m.tab.length p.c2, .slice p.a3 m.row.length p.c3, .slice p.a4 m.heap.length p.c4]) _ := hb
    refine RL.nil (RC.back ?_)
    refine RC.seq ?_
    refine RC.region rfl ?_
    refine RL.ev (.loadR ([.int .i64 (pairsM m.map o).2.e, .int .i64 (pairsM m.map o).2.a, .int .i64 (pairsM m.map o).2.b]) sh39 rfl hb_6.row rfl) rfl rfl ?_
    refine RL.store sh39 rfl rfl rfl hb_4 (by exact Nat.le_of_ble_eq_true rfl) (by rfl) rfl (fun w12 z12 hb_4 a12 => ?_)
    have hb := hb.upd a12 n__4
    have G := agNew G a12 geG_4
    have hb_3 := hb_3.upd a12 n_3__4
    have hb_6 := hb_6.upd a12 n_4__6.symm
    have hF' := hF'.updD a12 d_hF'_b_4
    have hb_4 : Has w12 b_4 ([.int .i64 (pairsM m.map o).2.e, .int .i64 (pairsM m.map o).2.a, .int .i64 (pairsM m.map o).2.b]) _ := hb_4.now (by kernel_rfl)
    refine RL.nil (RC.back ?_)
    refine RC.done (rs := [.cell 4 39]) (vs := [_]) rfl rfl ⟨⟨_, rfl, .inr ⟨[.int .i64 (pairsM m.map o).2.e, .int .i64 (pairsM m.map o).2.a, .int .i64 (pairsM m.map o).2.b], sh39, hb_4.row, rfl⟩⟩, trivial⟩ ?_
    -- end 2
    exact ⟨a', c', M', rfl, hc', hF', hup, hb, G⟩
theorem c_box2 (b : Nat) (p : Ph) (m : Mo) (hs : Srt m.tab) (hl200 : m.tab.length ≤ 200) (hc : m.tab.length ≤ p.c2) (o : OpT) (hok : okP o) (w : World) (M : Nat → Prop) (hF : Ft M (fun u => Sl u p.a2 2 (m.tab.map It.cells)) w) (hb : Has w b (moC p m) 25) (hn : ∀ k, M k → k ≠ b) :
    FC Try.prog 63 [.pointer (some ⟨b, 0, none⟩), .agg o.cells.toArray] w (fun u w' => ∃ a' c' M', u = .agg (pairsM m.tab o).2.cells.toArray ∧ (pairsM m.tab o).1.length ≤ c' ∧ Ft M' (fun u => Sl u a' 2 ((pairsM m.tab o).1.map It.cells)) w' ∧ Up M w M' ∧ Has w' b [.slice p.a1 m.map.length p.c1, .slice a' (pairsM m.tab o).1.length c', .slice p.a3 m.row.length p.c3, .slice p.a4 m.heap.length p.c4] 25 ∧ Agr (· = b) w w') := by
  have G : Agr (· = b) w w := Agr.refl _ _
  refine FC.intro Try.func63 rfl Try.ntmps63 rfl ?_
  have ltb := hb.lt
  refine RC.seq ?_
  refine RC.region rfl ?_
  refine RL.box rfl rfl rfl (fun b_3 w_3 e_3 z_3 hb_3 s_3 => ?_)
  have n__3 := hb.ne e_3
  have d_hF_b_3 := hF.neNew e_3
  have hb := hb.sub s_3
  have hF := hF.sub s_3
  have geG_3 := agLe G e_3
  have G := G.trans s_3.agr
  have hb_3 : Has w_3 b_3 ([.int .i64 o.box, .int .i64 o.kind, .int .i64 o.a, .int .i64 o.b]) _ := hb_3
  refine RL.alloc ze39 rfl rfl (fun b_4 w_4 e_4 z_4 hb_4 s_4 => ?_)
  have n__4 := hb.ne e_4
  have n_3__4 := hb_3.ne e_4
  have d_hF_b_4 := hF.neNew e_4
  have hb := hb.sub s_4
  have hF := hF.sub s_4
  have geG_4 := agLe G e_4
  have G := G.trans s_4.agr
  have hb_3 := hb_3.sub s_4
  refine RL.nil (RC.back ?_)
  refine RC.seq ?_
  refine RC.drawD (fun k => False) [11] w_4.heap.size 12 rfl rfl mxo (fun w1 s2 => ?_)
  have ltD_b := hb.lt
  have ltD_hF := fun k hk => (hF.ge k hk).2
  have ltD_b_3 := hb_3.lt
  have ltD_b_4 := hb_4.lt
  have szD := Nat.le_refl w_4.heap.size
  have hb := hb.sub s2
  have hF := hF.sub s2
  have G := G.trans s2.agr
  have hb_3 := hb_3.sub s2
  have hb_4 := hb_4.sub s2
  have szD := Nat.le_trans szD s2.size
  refine RD.take 0 rfl (by kernel_rfl) (by kernel_rfl) (by kernel_rfl) (fun w' s' => .move rfl) rfl rfl ?_
  refine RD.take 1 rfl (by kernel_rfl) (by kernel_rfl) (by kernel_rfl) (fun w' s' => .nilCheck rfl) rfl rfl ?_
  refine RD.take 2 rfl (by kernel_rfl) (by kernel_rfl) (by kernel_rfl) (fun w' s' => .field0 fo25_1 rfl) rfl rfl ?_
  refine RD.take 3 rfl (by kernel_rfl) (by kernel_rfl) (by kernel_rfl) (fun w' s' => .load1 sh22 rfl ((hb.step s' (fun e => e.elim (fun e => e.elim) (fun e => Nat.not_le.2 ltD_b e))).cell rfl)) rfl rfl ?_
  refine RD.take 4 rfl (by kernel_rfl) (by kernel_rfl) (by kernel_rfl) (fun w' s' => .loadR ([.int .i64 o.box, .int .i64 o.kind, .int .i64 o.a, .int .i64 o.b]) sh34 rfl (hb_3.step s' (fun e => e.elim (fun e => e.elim) (fun e => Nat.not_le.2 ltD_b_3 e))).row rfl) rfl rfl ?_
  refine RD.all [5, 9] (by kernel_rfl) rfl (RDs.cons rfl ?_ (RDs.cons rfl ?_ (RDs.nil)))
  ·
    refine RL.call rfl ok62 (c_pairs m.tab p.a2 p.c2 _ rfl hs hl200 hc o hok w1 M hF) rfl rfl ?_
    rintro _ w3 ⟨s4, a', c', M', rfl, hc', hF', hup⟩
    have d_hF'_b := upNe hup hn hb.lt
    have d_hF'_b_3 := upNe hup d_hF_b_3 hb_3.lt
    have d_hF'_b_4 := upNe hup d_hF_b_4 hb_4.lt
    have hup := hup.le G.size
    have hb := hb.sub s4
    have hF := hF.sub s4
    have G := G.trans s4.agr
    have hb_3 := hb_3.sub s4
    have hb_4 := hb_4.sub s4
    have szD := Nat.le_trans szD s4.size
    refine RD.back s4.agr ?_
    refine RD.take 6 rfl (by kernel_rfl) (by kernel_rfl) (by kernel_rfl) (fun w' s' => .move rfl) rfl rfl ?_
    refine RD.take 7 rfl (by kernel_rfl) (by kernel_rfl) (by kernel_rfl) (fun w' s' => .extract rfl rfl) rfl rfl ?_
    refine RD.take 8 rfl (by kernel_rfl) (by kernel_rfl) (by kernel_rfl) (fun w' s' => .extract rfl rfl) rfl rfl ?_
    refine RD.all [9] (by kernel_rfl) rfl (RDs.cons rfl ?_ (RDs.nil))
    refine RL.alloc ze39 rfl rfl (fun b_6 w_6 e_6 z_6 hb_6 s_6 => ?_)
    have fr_b_6 : w_4.heap.size ≤ b_6 := by rw [e_6]; exact szD
    have n__6 := hb.ne e_6
    have n_3__6 := hb_3.ne e_6
    have n_4__6 := hb_4.ne e_6
    have d_hF'_b_6 := hF'.neNew e_6
    have hb := hb.sub s_6
    have geG_6 := agLe G e_6
    have G := G.trans s_6.agr
    have hb_3 := hb_3.sub s_6
    have hb_4 := hb_4.sub s_6
    have szD := Nat.le_trans szD s_6.size
    have hF' := hF'.sub s_6
    refine RD.back s_6.agr ?_
    refine RD.take 10 rfl (by kernel_rfl) (by kernel_rfl) (by kernel_rfl) (fun w' s' => .assign rfl) rfl rfl ?_
    refine RD.all [11] (by kernel_rfl) rfl (RDs.cons rfl ?_ (RDs.nil))
    refine RL.store sh39 rfl rfl rfl hb_6 (by exact Nat.le_of_ble_eq_true rfl) (by rfl) rfl (fun w5 z5 hb_6 a5 => ?_)
    have hb := hb.upd a5 n__6
    have G := agNew G a5 geG_6
    have hb_3 := hb_3.upd a5 n_3__6
    have hb_4 := hb_4.upd a5 n_4__6
    have szD := Nat.le_trans szD a5.size
    have hF' := hF'.updD a5 d_hF'_b_6
    have hb_6 : Has w5 b_6 ([.int .i64 (pairsM m.tab o).2.e, .int .i64 (pairsM m.tab o).2.a, .int .i64 (pairsM m.tab o).2.b]) _ := hb_6.now (by kernel_rfl)
    refine RD.backW rfl (a5.mono fun k _ e => e ▸ (.inr fr_b_6)) ?_
    refine RD.done (by kernel_rfl) (RC.back ?_)
    refine RC.seq ?_
    refine RC.region rfl ?_
    refine RL.ev (.move rfl) rfl rfl ?_
    refine RL.ev (.move rfl) rfl rfl ?_
    refine RL.ev (.nilCheck rfl) rfl rfl ?_
    refine RL.ev (.field0 fo25_1 rfl) rfl rfl ?_
    refine RL.store sh22 rfl rfl rfl hb (by exact Nat.le_of_ble_eq_true rfl) (by rfl) rfl (fun w6 z6 hb a6 => ?_)
    have G := G.trans a6
    have hb_3 := hb_3.upd a6 n__3.symm
    have hb_4 := hb_4.upd a6 n__4.symm
    have hF' := hF'.updD a6 d_hF'_b
    have hb_6 := hb_6.upd a6 n__6.symm
    have hb : Has w6 b ([.slice p.a1 m.map.length p.c1, .slice a' (pairsM m.tab o).1.length c', .slice p.a3 m.row.length p.c3, .slice p.a4 m.heap.length p.c4]) _ := hb
    refine RL.nil (RC.back ?_)
    refine RC.seq ?_
    refine RC.region rfl ?_
    refine RL.ev (.loadR ([.int .i64 (pairsM m.tab o).2.e, .int .i64 (pairsM m.tab o).2.a, .int .i64 (pairsM m.tab o).2.b]) sh39 rfl hb_6.row rfl) rfl rfl ?_
    refine RL.store sh39 rfl rfl rfl hb_4 (by exact Nat.le_of_ble_eq_true rfl) (by rfl) rfl (fun w7 z7 hb_4 a7 => ?_)
    have hb := hb.upd a7 n__4
    have G := agNew G a7 geG_4
    have hb_3 := hb_3.upd a7 n_3__4
    have hF' := hF'.updD a7 d_hF'_b_4
    have hb_6 := hb_6.upd a7 n_4__6.symm
    have hb_4 : Has w7 b_4 ([.int .i64 (pairsM m.tab o).2.e, .int .i64 (pairsM m.tab o).2.a, .int .i64 (pairsM m.tab o).2.b]) _ := hb_4.now (by kernel_rfl)
    refine RL.nil (RC.back ?_)
    refine RC.done (rs := [.cell 4 39]) (vs := [_]) rfl rfl ⟨⟨_, rfl, .inr ⟨[.int .i64 (pairsM m.tab o).2.e, .int .i64 (pairsM m.tab o).2.a, .int .i64 (pairsM m.tab o).2.b], sh39, hb_4.row, rfl⟩⟩, trivial⟩ ?_
    -- end 1
    exact ⟨a', c', M', rfl, hc', hF', hup, hb, G⟩
  ·
    refine RL.alloc ze39 rfl rfl (fun b_6 w_6 e_6 z_6 hb_6 s_6 => ?_)
    have fr_b_6 : w_4.heap.size ≤ b_6 := by rw [e_6]; exact szD
    have n__6 := hb.ne e_6
    have n_3__6 := hb_3.ne e_6
    have n_4__6 := hb_4.ne e_6
    have d_hF_b_6 := hF.neNew e_6
    have hb := hb.sub s_6
    have hF := hF.sub s_6
    have geG_6 := agLe G e_6
    have G := G.trans s_6.agr
    have hb_3 := hb_3.sub s_6
    have hb_4 := hb_4.sub s_6
    have szD := Nat.le_trans szD s_6.size
    refine RD.back s_6.agr ?_
    refine RD.all [5] (by kernel_rfl) rfl (RDs.cons rfl ?_ (RDs.nil))
    refine RL.call rfl ok62 (c_pairs m.tab p.a2 p.c2 _ rfl hs hl200 hc o hok w_6 M hF) rfl rfl ?_
    rintro _ w8 ⟨s9, a', c', M', rfl, hc', hF', hup⟩
    have d_hF'_b := upNe hup hn hb.lt
    have d_hF'_b_3 := upNe hup d_hF_b_3 hb_3.lt
    have d_hF'_b_4 := upNe hup d_hF_b_4 hb_4.lt
    have d_hF'_b_6 := upNe hup d_hF_b_6 hb_6.lt
    have hup := hup.le G.size
    have hb := hb.sub s9
    have hF := hF.sub s9
    have G := G.trans s9.agr
    have hb_3 := hb_3.sub s9
    have hb_4 := hb_4.sub s9
    have szD := Nat.le_trans szD s9.size
    have hb_6 := hb_6.sub s9
    refine RD.back s9.agr ?_
    refine RD.take 6 rfl (by kernel_rfl) (by kernel_rfl) (by kernel_rfl) (fun w' s' => .move rfl) rfl rfl ?_
    refine RD.take 7 rfl (by kernel_rfl) (by kernel_rfl) (by kernel_rfl) (fun w' s' => .extract rfl rfl) rfl rfl ?_
    refine RD.take 8 rfl (by kernel_rfl) (by kernel_rfl) (by kernel_rfl) (fun w' s' => .extract rfl rfl) rfl rfl ?_
    refine RD.take 10 rfl (by kernel_rfl) (by kernel_rfl) (by kernel_rfl) (fun w' s' => .assign rfl) rfl rfl ?_
    refine RD.all [11] (by kernel_rfl) rfl (RDs.cons rfl ?_ (RDs.nil))
    refine RL.store sh39 rfl rfl rfl hb_6 (by exact Nat.le_of_ble_eq_true rfl) (by rfl) rfl (fun w10 z10 hb_6 a10 => ?_)
    have hb := hb.upd a10 n__6
    have G := agNew G a10 geG_6
    have hb_3 := hb_3.upd a10 n_3__6
    have hb_4 := hb_4.upd a10 n_4__6
    have szD := Nat.le_trans szD a10.size
    have hF' := hF'.updD a10 d_hF'_b_6
    have hb_6 : Has w10 b_6 ([.int .i64 (pairsM m.tab o).2.e, .int .i64 (pairsM m.tab o).2.a, .int .i64 (pairsM m.tab o).2.b]) _ := hb_6.now (by kernel_rfl)
    refine RD.backW rfl (a10.mono fun k _ e => e ▸ (.inr fr_b_6)) ?_
    refine RD.done (by kernel_rfl) (RC.back ?_)
    refine RC.seq ?_
    refine RC.region rfl ?_
    refine RL.ev (.move rfl) rfl rfl ?_
    refine RL.ev (.move rfl) rfl rfl ?_
    refine RL.ev (.nilCheck rfl) rfl rfl ?_
    refine RL.ev (.field0 fo25_1 rfl) rfl rfl ?_
    refine RL.store sh22 rfl rfl rfl hb (by exact Nat.le_of_ble_eq_true rfl) (by rfl) rfl (fun w11 z11 hb a11 => ?_)
    have G := G.trans a11
    have hb_3 := hb_3.upd a11 n__3.symm
    have hb_4 := hb_4.upd a11 n__4.symm
    have hb_6 := hb_6.upd a11 n__6.symm
    have hF' := hF'.updD a11 d_hF'_b
    have hb : Has w11 b ([.slice p.a1 m.map.length p.c1, .slice a' (pairsM m.tab o).1.length c', .slice p.a3 m.row.length p.c3, .slice p.a4 m.heap.length p.c4]) _ := hb
    refine RL.nil (RC.back ?_)
    refine RC.seq ?_
    refine RC.region rfl ?_
    refine RL.ev (.loadR ([.int .i64 (pairsM m.tab o).2.e, .int .i64 (pairsM m.tab o).2.a, .int .i64 (pairsM m.tab o).2.b]) sh39 rfl hb_6.row rfl) rfl rfl ?_
    refine RL.store sh39 rfl rfl rfl hb_4 (by exact Nat.le_of_ble_eq_true rfl) (by rfl) rfl (fun w12 z12 hb_4 a12 => ?_)
    have hb := hb.upd a12 n__4
    have G := agNew G a12 geG_4
    have hb_3 := hb_3.upd a12 n_3__4
    have hb_6 := hb_6.upd a12 n_4__6.symm
    have hF' := hF'.updD a12 d_hF'_b_4
    have hb_4 : Has w12 b_4 ([.int .i64 (pairsM m.tab o).2.e, .int .i64 (pairsM m.tab o).2.a, .int .i64 (pairsM m.tab o).2.b]) _ := hb_4.now (by kernel_rfl)
    refine RL.nil (RC.back ?_)
    refine RC.done (rs := [.cell 4 39]) (vs := [_]) rfl rfl ⟨⟨_, rfl, .inr ⟨[.int .i64 (pairsM m.tab o).2.e, .int .i64 (pairsM m.tab o).2.a, .int .i64 (pairsM m.tab o).2.b], sh39, hb_4.row, rfl⟩⟩, trivial⟩ ?_
    -- end 2
    exact ⟨a', c', M', rfl, hc', hF', hup, hb, G⟩
theorem c_box3 (b : Nat) (p : Ph) (m : Mo) (hs : True) (hl200 : m.row.length ≤ 200) (hc : m.row.length ≤ p.c3) (o : OpT) (hok : okP o) (w : World) (M : Nat → Prop) (hF : Ft M (fun u => Sl u p.a3 1 (m.row.map fun x => [i6 x])) w) (hb : Has w b (moC p m) 25) (hn : ∀ k, M k → k ≠ b) :
    FC Try.prog 64 [.pointer (some ⟨b, 0, none⟩), .agg o.cells.toArray] w (fun u w' => ∃ a' c' M', u = .agg (rowM m.row o).2.cells.toArray ∧ (rowM m.row o).1.length ≤ c' ∧ Ft M' (fun u => Sl u a' 1 ((rowM m.row o).1.map fun x => [i6 x])) w' ∧ Up M w M' ∧ Has w' b [.slice p.a1 m.map.length p.c1, .slice p.a2 m.tab.length p.c2, .slice a' (rowM m.row o).1.length c', .slice p.a4 m.heap.length p.c4] 25 ∧ Agr (· = b) w w') := by
  have G : Agr (· = b) w w := Agr.refl _ _
  refine FC.intro Try.func64 rfl Try.ntmps64 rfl ?_
  have ltb := hb.lt
  refine RC.seq ?_
  refine RC.region rfl ?_
  refine RL.box rfl rfl rfl (fun b_3 w_3 e_3 z_3 hb_3 s_3 => ?_)
  have n__3 := hb.ne e_3
  have d_hF_b_3 := hF.neNew e_3
  have hb := hb.sub s_3
  have hF := hF.sub s_3
  have geG_3 := agLe G e_3
  have G := G.trans s_3.agr
  have hb_3 : Has w_3 b_3 ([.int .i64 o.box, .int .i64 o.kind, .int .i64 o.a, .int .i64 o.b]) _ := hb_3
  refine RL.alloc ze39 rfl rfl (fun b_4 w_4 e_4 z_4 hb_4 s_4 => ?_)
  have n__4 := hb.ne e_4
  have n_3__4 := hb_3.ne e_4
  have d_hF_b_4 := hF.neNew e_4
  have hb := hb.sub s_4
  have hF := hF.sub s_4
  have geG_4 := agLe G e_4
  have G := G.trans s_4.agr
  have hb_3 := hb_3.sub s_4
  refine RL.nil (RC.back ?_)
  refine RC.seq ?_
  refine RC.drawD (fun k => False) [11] w_4.heap.size 12 rfl rfl mxo (fun w1 s2 => ?_)
  have ltD_b := hb.lt
  have ltD_hF := fun k hk => (hF.ge k hk).2
  have ltD_b_3 := hb_3.lt
  have ltD_b_4 := hb_4.lt
  have szD := Nat.le_refl w_4.heap.size
  have hb := hb.sub s2
  have hF := hF.sub s2
  have G := G.trans s2.agr
  have hb_3 := hb_3.sub s2
  have hb_4 := hb_4.sub s2
  have szD := Nat.le_trans szD s2.size
  refine RD.take 0 rfl (by kernel_rfl) (by kernel_rfl) (by kernel_rfl) (fun w' s' => .move rfl) rfl rfl ?_
  refine RD.take 1 rfl (by kernel_rfl) (by kernel_rfl) (by kernel_rfl) (fun w' s' => .nilCheck rfl) rfl rfl ?_
  refine RD.take 2 rfl (by kernel_rfl) (by kernel_rfl) (by kernel_rfl) (fun w' s' => .field0 fo25_2 rfl) rfl rfl ?_
  refine RD.take 3 rfl (by kernel_rfl) (by kernel_rfl) (by kernel_rfl) (fun w' s' => .load1 sh23 rfl ((hb.step s' (fun e => e.elim (fun e => e.elim) (fun e => Nat.not_le.2 ltD_b e))).cell rfl)) rfl rfl ?_
  refine RD.take 4 rfl (by kernel_rfl) (by kernel_rfl) (by kernel_rfl) (fun w' s' => .loadR ([.int .i64 o.box, .int .i64 o.kind, .int .i64 o.a, .int .i64 o.b]) sh34 rfl (hb_3.step s' (fun e => e.elim (fun e => e.elim) (fun e => Nat.not_le.2 ltD_b_3 e))).row rfl) rfl rfl ?_
  refine RD.all [5, 9] (by kernel_rfl) rfl (RDs.cons rfl ?_ (RDs.cons rfl ?_ (RDs.nil)))
  ·
    refine RL.call rfl ok65 (c_row m.row p.a3 p.c3 _ rfl hl200 hc o hok w1 M hF) rfl rfl ?_
    rintro _ w3 ⟨s4, a', c', M', rfl, hc', hF', hup⟩
    have d_hF'_b := upNe hup hn hb.lt
    have d_hF'_b_3 := upNe hup d_hF_b_3 hb_3.lt
    have d_hF'_b_4 := upNe hup d_hF_b_4 hb_4.lt
    have hup := hup.le G.size
    have hb := hb.sub s4
    have hF := hF.sub s4
    have G := G.trans s4.agr
    have hb_3 := hb_3.sub s4
    have hb_4 := hb_4.sub s4
    have szD := Nat.le_trans szD s4.size
    refine RD.back s4.agr ?_
    refine RD.take 6 rfl (by kernel_rfl) (by kernel_rfl) (by kernel_rfl) (fun w' s' => .move rfl) rfl rfl ?_
    refine RD.take 7 rfl (by kernel_rfl) (by kernel_rfl) (by kernel_rfl) (fun w' s' => .extract rfl rfl) rfl rfl ?_
    refine RD.take 8 rfl (by kernel_rfl) (by kernel_rfl) (by kernel_rfl) (fun w' s' => .extract rfl rfl) rfl rfl ?_
    refine RD.all [9] (by kernel_rfl) rfl (RDs.cons rfl ?_ (RDs.nil))
    refine RL.alloc ze39 rfl rfl (fun b_6 w_6 e_6 z_6 hb_6 s_6 => ?_)
    have fr_b_6 : w_4.heap.size ≤ b_6 := by rw [e_6]; exact szD
    have n__6 := hb.ne e_6
    have n_3__6 := hb_3.ne e_6
    have n_4__6 := hb_4.ne e_6
    have d_hF'_b_6 := hF'.neNew e_6
    have hb := hb.sub s_6
    have geG_6 := agLe G e_6
    have G := G.trans s_6.agr
    have hb_3 := hb_3.sub s_6
    have hb_4 := hb_4.sub s_6
    have szD := Nat.le_trans szD s_6.size
    have hF' := hF'.sub s_6
    refine RD.back s_6.agr ?_
    refine RD.take 10 rfl (by kernel_rfl) (by kernel_rfl) (by kernel_rfl) (fun w' s' => .assign rfl) rfl rfl ?_
    refine RD.all [11] (by kernel_rfl) rfl (RDs.cons rfl ?_ (RDs.nil))
    refine RL.store sh39 rfl rfl rfl hb_6 (by exact Nat.le_of_ble_eq_true rfl) (by rfl) rfl (fun w5 z5 hb_6 a5 => ?_)
    have hb := hb.upd a5 n__6
    have G := agNew G a5 geG_6
    have hb_3 := hb_3.upd a5 n_3__6
    have hb_4 := hb_4.upd a5 n_4__6
    have szD := Nat.le_trans szD a5.size
    have hF' := hF'.updD a5 d_hF'_b_6
    have hb_6 : Has w5 b_6 ([.int .i64 (rowM m.row o).2.e, .int .i64 (rowM m.row o).2.a, .int .i64 (rowM m.row o).2.b]) _ := hb_6.now (by kernel_rfl)
    refine RD.backW rfl (a5.mono fun k _ e => e ▸ (.inr fr_b_6)) ?_
    refine RD.done (by kernel_rfl) (RC.back ?_)
    refine RC.seq ?_
    refine RC.region rfl ?_
    refine RL.ev (.move rfl) rfl rfl ?_
    refine RL.ev (.move rfl) rfl rfl ?_
    refine RL.ev (.nilCheck rfl) rfl rfl ?_
    refine RL.ev (.field0 fo25_2 rfl) rfl rfl ?_
    refine RL.store sh23 rfl rfl rfl hb (by exact Nat.le_of_ble_eq_true rfl) (by rfl) rfl (fun w6 z6 hb a6 => ?_)
    have G := G.trans a6
    have hb_3 := hb_3.upd a6 n__3.symm
    have hb_4 := hb_4.upd a6 n__4.symm
    have hF' := hF'.updD a6 d_hF'_b
    have hb_6 := hb_6.upd a6 n__6.symm
    have hb : Has w6 b ([.slice p.a1 m.map.length p.c1, .slice p.a2 m.tab.length p.c2, .slice a' (rowM m.row o).1.length c', .slice p.a4 m.heap.length p.c4]) _ := hb
    refine RL.nil (RC.back ?_)
    refine RC.seq ?_
    refine RC.region rfl ?_
    refine RL.ev (.loadR ([.int .i64 (rowM m.row o).2.e, .int .i64 (rowM m.row o).2.a, .int .i64 (rowM m.row o).2.b]) sh39 rfl hb_6.row rfl) rfl rfl ?_
    refine RL.store sh39 rfl rfl rfl hb_4 (by exact Nat.le_of_ble_eq_true rfl) (by rfl) rfl (fun w7 z7 hb_4 a7 => ?_)
    have hb := hb.upd a7 n__4
    have G := agNew G a7 geG_4
    have hb_3 := hb_3.upd a7 n_3__4
    have hF' := hF'.updD a7 d_hF'_b_4
    have hb_6 := hb_6.upd a7 n_4__6.symm
    have hb_4 : Has w7 b_4 ([.int .i64 (rowM m.row o).2.e, .int .i64 (rowM m.row o).2.a, .int .i64 (rowM m.row o).2.b]) _ := hb_4.now (by kernel_rfl)
    refine RL.nil (RC.back ?_)
    refine RC.done (rs := [.cell 4 39]) (vs := [_]) rfl rfl ⟨⟨_, rfl, .inr ⟨[.int .i64 (rowM m.row o).2.e, .int .i64 (rowM m.row o).2.a, .int .i64 (rowM m.row o).2.b], sh39, hb_4.row, rfl⟩⟩, trivial⟩ ?_
    -- end 1
    exact ⟨a', c', M', rfl, hc', hF', hup, hb, G⟩
  ·
    refine RL.alloc ze39 rfl rfl (fun b_6 w_6 e_6 z_6 hb_6 s_6 => ?_)
    have fr_b_6 : w_4.heap.size ≤ b_6 := by rw [e_6]; exact szD
    have n__6 := hb.ne e_6
    have n_3__6 := hb_3.ne e_6
    have n_4__6 := hb_4.ne e_6
    have d_hF_b_6 := hF.neNew e_6
    have hb := hb.sub s_6
    have hF := hF.sub s_6
    have geG_6 := agLe G e_6
    have G := G.trans s_6.agr
    have hb_3 := hb_3.sub s_6
    have hb_4 := hb_4.sub s_6
    have szD := Nat.le_trans szD s_6.size
    refine RD.back s_6.agr ?_
    refine RD.all [5] (by kernel_rfl) rfl (RDs.cons rfl ?_ (RDs.nil))
    refine RL.call rfl ok65 (c_row m.row p.a3 p.c3 _ rfl hl200 hc o hok w_6 M hF) rfl rfl ?_
    rintro _ w8 ⟨s9, a', c', M', rfl, hc', hF', hup⟩
    have d_hF'_b := upNe hup hn hb.lt
    have d_hF'_b_3 := upNe hup d_hF_b_3 hb_3.lt
    have d_hF'_b_4 := upNe hup d_hF_b_4 hb_4.lt
    have d_hF'_b_6 := upNe hup d_hF_b_6 hb_6.lt
    have hup := hup.le G.size
    have hb := hb.sub s9
    have hF := hF.sub s9
    have G := G.trans s9.agr
    have hb_3 := hb_3.sub s9
    have hb_4 := hb_4.sub s9
    have szD := Nat.le_trans szD s9.size
    have hb_6 := hb_6.sub s9
    refine RD.back s9.agr ?_
    refine RD.take 6 rfl (by kernel_rfl) (by kernel_rfl) (by kernel_rfl) (fun w' s' => .move rfl) rfl rfl ?_
    refine RD.take 7 rfl (by kernel_rfl) (by kernel_rfl) (by kernel_rfl) (fun w' s' => .extract rfl rfl) rfl rfl ?_
    refine RD.take 8 rfl (by kernel_rfl) (by kernel_rfl) (by kernel_rfl) (fun w' s' => .extract rfl rfl) rfl rfl ?_
    refine RD.take 10 rfl (by kernel_rfl) (by kernel_rfl) (by kernel_rfl) (fun w' s' => .assign rfl) rfl rfl ?_
    refine RD.all [11] (by kernel_rfl) rfl (RDs.cons rfl ?_ (RDs.nil))
    refine RL.store sh39 rfl rfl rfl hb_6 (by exact Nat.le_of_ble_eq_true rfl) (by rfl) rfl (fun w10 z10 hb_6 a10 => ?_)
    have hb := hb.upd a10 n__6
    have G := agNew G a10 geG_6
    have hb_3 := hb_3.upd a10 n_3__6
    have hb_4 := hb_4.upd a10 n_4__6
    have szD := Nat.le_trans szD a10.size
    have hF' := hF'.updD a10 d_hF'_b_6
    have hb_6 : Has w10 b_6 ([.int .i64 (rowM m.row o).2.e, .int .i64 (rowM m.row o).2.a, .int .i64 (rowM m.row o).2.b]) _ := hb_6.now (by kernel_rfl)
    refine RD.backW rfl (a10.mono fun k _ e => e ▸ (.inr fr_b_6)) ?_
    refine RD.done (by kernel_rfl) (RC.back ?_)
    refine RC.seq ?_
    refine RC.region rfl ?_
    refine RL.ev (.move rfl) rfl rfl ?_
    refine RL.ev (.move rfl) rfl rfl ?_
    refine RL.ev (.nilCheck rfl) rfl rfl ?_
    refine RL.ev (.field0 fo25_2 rfl) rfl rfl ?_
    refine RL.store sh23 rfl rfl rfl hb (by exact Nat.le_of_ble_eq_true rfl) (by rfl) rfl (fun w11 z11 hb a11 => ?_)
    have G := G.trans a11
    have hb_3 := hb_3.upd a11 n__3.symm
    have hb_4 := hb_4.upd a11 n__4.symm
    have hb_6 := hb_6.upd a11 n__6.symm
    have hF' := hF'.updD a11 d_hF'_b
    have hb : Has w11 b ([.slice p.a1 m.map.length p.c1, .slice p.a2 m.tab.length p.c2, .slice a' (rowM m.row o).1.length c', .slice p.a4 m.heap.length p.c4]) _ := hb
    refine RL.nil (RC.back ?_)
    refine RC.seq ?_
    refine RC.region rfl ?_
    refine RL.ev (.loadR ([.int .i64 (rowM m.row o).2.e, .int .i64 (rowM m.row o).2.a, .int .i64 (rowM m.row o).2.b]) sh39 rfl hb_6.row rfl) rfl rfl ?_
    refine RL.store sh39 rfl rfl rfl hb_4 (by exact Nat.le_of_ble_eq_true rfl) (by rfl) rfl (fun w12 z12 hb_4 a12 => ?_)
    have hb := hb.upd a12 n__4
    have G := agNew G a12 geG_4
    have hb_3 := hb_3.upd a12 n_3__4
    have hb_6 := hb_6.upd a12 n_4__6.symm
    have hF' := hF'.updD a12 d_hF'_b_4
    have hb_4 : Has w12 b_4 ([.int .i64 (rowM m.row o).2.e, .int .i64 (rowM m.row o).2.a, .int .i64 (rowM m.row o).2.b]) _ := hb_4.now (by kernel_rfl)
    refine RL.nil (RC.back ?_)
    refine RC.done (rs := [.cell 4 39]) (vs := [_]) rfl rfl ⟨⟨_, rfl, .inr ⟨[.int .i64 (rowM m.row o).2.e, .int .i64 (rowM m.row o).2.a, .int .i64 (rowM m.row o).2.b], sh39, hb_4.row, rfl⟩⟩, trivial⟩ ?_
    -- end 2
    exact ⟨a', c', M', rfl, hc', hF', hup, hb, G⟩
theorem c_box4 (b : Nat) (p : Ph) (m : Mo) (hs : SrtH m.heap) (hl200 : m.heap.length ≤ 200) (hc : m.heap.length ≤ p.c4) (o : OpT) (hok : okP o) (w : World) (M : Nat → Prop) (hF : Ft M (fun u => Sl u p.a4 2 (m.heap.map It.cells)) w) (hb : Has w b (moC p m) 25) (hn : ∀ k, M k → k ≠ b) :
    FC Try.prog 66 [.pointer (some ⟨b, 0, none⟩), .agg o.cells.toArray] w (fun u w' => ∃ a' c' M', u = .agg (heapM m.heap o).2.cells.toArray ∧ (heapM m.heap o).1.length ≤ c' ∧ Ft M' (fun u => Sl u a' 2 ((heapM m.heap o).1.map It.cells)) w' ∧ Up M w M' ∧ Has w' b [.slice p.a1 m.map.length p.c1, .slice p.a2 m.tab.length p.c2, .slice p.a3 m.row.length p.c3, .slice a' (heapM m.heap o).1.length c'] 25 ∧ Agr (· = b) w w') := by
  have G : Agr (· = b) w w := Agr.refl _ _
  refine FC.intro Try.func66 rfl Try.ntmps66 rfl ?_
  have ltb := hb.lt
  refine RC.seq ?_
  refine RC.region rfl ?_
  refine RL.box rfl rfl rfl (fun b_3 w_3 e_3 z_3 hb_3 s_3 => ?_)
  have n__3 := hb.ne e_3
  have d_hF_b_3 := hF.neNew e_3
  have hb := hb.sub s_3
  have hF := hF.sub s_3
  have geG_3 := agLe G e_3
  have G := G.trans s_3.agr
  have hb_3 : Has w_3 b_3 ([.int .i64 o.box, .int .i64 o.kind, .int .i64 o.a, .int .i64 o.b]) _ := hb_3
  refine RL.alloc ze39 rfl rfl (fun b_4 w_4 e_4 z_4 hb_4 s_4 => ?_)
  have n__4 := hb.ne e_4
  have n_3__4 := hb_3.ne e_4
  have d_hF_b_4 := hF.neNew e_4
  have hb := hb.sub s_4
  have hF := hF.sub s_4
  have geG_4 := agLe G e_4
  have G := G.trans s_4.agr
  have hb_3 := hb_3.sub s_4
  refine RL.nil (RC.back ?_)
  refine RC.seq ?_
  refine RC.drawD (fun k => False) [11] w_4.heap.size 12 rfl rfl mxo (fun w1 s2 => ?_)
  have ltD_b := hb.lt
  have ltD_hF := fun k hk => (hF.ge k hk).2
  have ltD_b_3 := hb_3.lt
  have ltD_b_4 := hb_4.lt
  have szD := Nat.le_refl w_4.heap.size
  have hb := hb.sub s2
  have hF := hF.sub s2
  have G := G.trans s2.agr
  have hb_3 := hb_3.sub s2
  have hb_4 := hb_4.sub s2
  have szD := Nat.le_trans szD s2.size
  refine RD.take 0 rfl (by kernel_rfl) (by kernel_rfl) (by kernel_rfl) (fun w' s' => .move rfl) rfl rfl ?_
  refine RD.take 1 rfl (by kernel_rfl) (by kernel_rfl) (by kernel_rfl) (fun w' s' => .nilCheck rfl) rfl rfl ?_
  refine RD.take 2 rfl (by kernel_rfl) (by kernel_rfl) (by kernel_rfl) (fun w' s' => .field0 fo25_3 rfl) rfl rfl ?_
  refine RD.take 3 rfl (by kernel_rfl) (by kernel_rfl) (by kernel_rfl) (fun w' s' => .load1 sh22 rfl ((hb.step s' (fun e => e.elim (fun e => e.elim) (fun e => Nat.not_le.2 ltD_b e))).cell rfl)) rfl rfl ?_
  refine RD.take 4 rfl (by kernel_rfl) (by kernel_rfl) (by kernel_rfl) (fun w' s' => .loadR ([.int .i64 o.box, .int .i64 o.kind, .int .i64 o.a, .int .i64 o.b]) sh34 rfl (hb_3.step s' (fun e => e.elim (fun e => e.elim) (fun e => Nat.not_le.2 ltD_b_3 e))).row rfl) rfl rfl ?_
  refine RD.all [5, 9] (by kernel_rfl) rfl (RDs.cons rfl ?_ (RDs.cons rfl ?_ (RDs.nil)))
  ·
    refine RL.call rfl ok67 (c_heap m.heap p.a4 p.c4 _ rfl hs hl200 hc o hok w1 M hF) rfl rfl ?_
    rintro _ w3 ⟨s4, a', c', M', rfl, hc', hF', hup⟩
    have d_hF'_b := upNe hup hn hb.lt
    have d_hF'_b_3 := upNe hup d_hF_b_3 hb_3.lt
    have d_hF'_b_4 := upNe hup d_hF_b_4 hb_4.lt
    have hup := hup.le G.size
    have hb := hb.sub s4
    have hF := hF.sub s4
    have G := G.trans s4.agr
    have hb_3 := hb_3.sub s4
    have hb_4 := hb_4.sub s4
    have szD := Nat.le_trans szD s4.size
    refine RD.back s4.agr ?_
    refine RD.take 6 rfl (by kernel_rfl) (by kernel_rfl) (by kernel_rfl) (fun w' s' => .move rfl) rfl rfl ?_
    refine RD.take 7 rfl (by kernel_rfl) (by kernel_rfl) (by kernel_rfl) (fun w' s' => .extract rfl rfl) rfl rfl ?_
    refine RD.take 8 rfl (by kernel_rfl) (by kernel_rfl) (by kernel_rfl) (fun w' s' => .extract rfl rfl) rfl rfl ?_
    refine RD.all [9] (by kernel_rfl) rfl (RDs.cons rfl ?_ (RDs.nil))
    refine RL.alloc ze39 rfl rfl (fun b_6 w_6 e_6 z_6 hb_6 s_6 => ?_)
    have fr_b_6 : w_4.heap.size ≤ b_6 := by rw [e_6]; exact szD
    have n__6 := hb.ne e_6
    have n_3__6 := hb_3.ne e_6
    have n_4__6 := hb_4.ne e_6
    have d_hF'_b_6 := hF'.neNew e_6
    have hb := hb.sub s_6
    have geG_6 := agLe G e_6
    have G := G.trans s_6.agr
    have hb_3 := hb_3.sub s_6
    have hb_4 := hb_4.sub s_6
    have szD := Nat.le_trans szD s_6.size
    have hF' := hF'.sub s_6
    refine RD.back s_6.agr ?_
    refine RD.take 10 rfl (by kernel_rfl) (by kernel_rfl) (by kernel_rfl) (fun w' s' => .assign rfl) rfl rfl ?_
    refine RD.all [11] (by kernel_rfl) rfl (RDs.cons rfl ?_ (RDs.nil))
    refine RL.store sh39 rfl rfl rfl hb_6 (by exact Nat.le_of_ble_eq_true rfl) (by rfl) rfl (fun w5 z5 hb_6 a5 => ?_)
    have hb := hb.upd a5 n__6
    have G := agNew G a5 geG_6
    have hb_3 := hb_3.upd a5 n_3__6
    have hb_4 := hb_4.upd a5 n_4__6
    have szD := Nat.le_trans szD a5.size
    have hF' := hF'.updD a5 d_hF'_b_6
    have hb_6 : Has w5 b_6 ([.int .i64 (heapM m.heap o).2.e, .int .i64 (heapM m.heap o).2.a, .int .i64 (heapM m.heap o).2.b]) _ := hb_6.now (by kernel_rfl)
    refine RD.backW rfl (a5.mono fun k _ e => e ▸ (.inr fr_b_6)) ?_
    refine RD.done (by kernel_rfl) (RC.back ?_)
    refine RC.seq ?_
    refine RC.region rfl ?_
    refine RL.ev (.move rfl) rfl rfl ?_
    refine RL.ev (.move rfl) rfl rfl ?_
    refine RL.ev (.nilCheck rfl) rfl rfl ?_
    refine RL.ev (.field0 fo25_3 rfl) rfl rfl ?_
    refine RL.store sh22 rfl rfl rfl hb (by exact Nat.le_of_ble_eq_true rfl) (by rfl) rfl (fun w6 z6 hb a6 => ?_)
    have G := G.trans a6
    have hb_3 := hb_3.upd a6 n__3.symm
    have hb_4 := hb_4.upd a6 n__4.symm
    have hF' := hF'.updD a6 d_hF'_b
    have hb_6 := hb_6.upd a6 n__6.symm
    have hb : Has w6 b ([.slice p.a1 m.map.length p.c1, .slice p.a2 m.tab.length p.c2, .slice p.a3 m.row.length p.c3, .slice a' (heapM m.heap o).1.length c']) _ := hb
    refine RL.nil (RC.back ?_)
    refine RC.seq ?_
    refine RC.region rfl ?_
    refine RL.ev (.loadR ([.int .i64 (heapM m.heap o).2.e, .int .i64 (heapM m.heap o).2.a, .int .i64 (heapM m.heap o).2.b]) sh39 rfl hb_6.row rfl) rfl rfl ?_
    refine RL.store sh39 rfl rfl rfl hb_4 (by exact Nat.le_of_ble_eq_true rfl) (by rfl) rfl (fun w7 z7 hb_4 a7 => ?_)
    have hb := hb.upd a7 n__4
    have G := agNew G a7 geG_4
    have hb_3 := hb_3.upd a7 n_3__4
    have hF' := hF'.updD a7 d_hF'_b_4
    have hb_6 := hb_6.upd a7 n_4__6.symm
    have hb_4 : Has w7 b_4 ([.int .i64 (heapM m.heap o).2.e, .int .i64 (heapM m.heap o).2.a, .int .i64 (heapM m.heap o).2.b]) _ := hb_4.now (by kernel_rfl)
    refine RL.nil (RC.back ?_)
    refine RC.done (rs := [.cell 4 39]) (vs := [_]) rfl rfl ⟨⟨_, rfl, .inr ⟨[.int .i64 (heapM m.heap o).2.e, .int .i64 (heapM m.heap o).2.a, .int .i64 (heapM m.heap o).2.b], sh39, hb_4.row, rfl⟩⟩, trivial⟩ ?_
    -- end 1
    exact ⟨a', c', M', rfl, hc', hF', hup, hb, G⟩
  ·
    refine RL.alloc ze39 rfl rfl (fun b_6 w_6 e_6 z_6 hb_6 s_6 => ?_)
    have fr_b_6 : w_4.heap.size ≤ b_6 := by rw [e_6]; exact szD
    have n__6 := hb.ne e_6
    have n_3__6 := hb_3.ne e_6
    have n_4__6 := hb_4.ne e_6
    have d_hF_b_6 := hF.neNew e_6
    have hb := hb.sub s_6
    have hF := hF.sub s_6
    have geG_6 := agLe G e_6
    have G := G.trans s_6.agr
    have hb_3 := hb_3.sub s_6
    have hb_4 := hb_4.sub s_6
    have szD := Nat.le_trans szD s_6.size
    refine RD.back s_6.agr ?_
    refine RD.all [5] (by kernel_rfl) rfl (RDs.cons rfl ?_ (RDs.nil))
    refine RL.call rfl ok67 (c_heap m.heap p.a4 p.c4 _ rfl hs hl200 hc o hok w_6 M hF) rfl rfl ?_
    rintro _ w8 ⟨s9, a', c', M', rfl, hc', hF', hup⟩
    have d_hF'_b := upNe hup hn hb.lt
    have d_hF'_b_3 := upNe hup d_hF_b_3 hb_3.lt
    have d_hF'_b_4 := upNe hup d_hF_b_4 hb_4.lt
    have d_hF'_b_6 := upNe hup d_hF_b_6 hb_6.lt
    have hup := hup.le G.size
    have hb := hb.sub s9
    have hF := hF.sub s9
    have G := G.trans s9.agr
    have hb_3 := hb_3.sub s9
    have hb_4 := hb_4.sub s9
    have szD := Nat.le_trans szD s9.size
    have hb_6 := hb_6.sub s9
    refine RD.back s9.agr ?_
    refine RD.take 6 rfl (by kernel_rfl) (by kernel_rfl) (by kernel_rfl) (fun w' s' => .move rfl) rfl rfl ?_
    refine RD.take 7 rfl (by kernel_rfl) (by kernel_rfl) (by kernel_rfl) (fun w' s' => .extract rfl rfl) rfl rfl ?_
    refine RD.take 8 rfl (by kernel_rfl) (by kernel_rfl) (by kernel_rfl) (fun w' s' => .extract rfl rfl) rfl rfl ?_
    refine RD.take 10 rfl (by kernel_rfl) (by kernel_rfl) (by kernel_rfl) (fun w' s' => .assign rfl) rfl rfl ?_
    refine RD.all [11] (by kernel_rfl) rfl (RDs.cons rfl ?_ (RDs.nil))
    refine RL.store sh39 rfl rfl rfl hb_6 (by exact Nat.le_of_ble_eq_true rfl) (by rfl) rfl (fun w10 z10 hb_6 a10 => ?_)
    have hb := hb.upd a10 n__6
    have G := agNew G a10 geG_6
    have hb_3 := hb_3.upd a10 n_3__6
    have hb_4 := hb_4.upd a10 n_4__6
    have szD := Nat.le_trans szD a10.size
    have hF' := hF'.updD a10 d_hF'_b_6
    have hb_6 : Has w10 b_6 ([.int .i64 (heapM m.heap o).2.e, .int .i64 (heapM m.heap o).2.a, .int .i64 (heapM m.heap o).2.b]) _ := hb_6.now (by kernel_rfl)
    refine RD.backW rfl (a10.mono fun k _ e => e ▸ (.inr fr_b_6)) ?_
    refine RD.done (by kernel_rfl) (RC.back ?_)
    refine RC.seq ?_
    refine RC.region rfl ?_
    refine RL.ev (.move rfl) rfl rfl ?_
    refine RL.ev (.move rfl) rfl rfl ?_
    refine RL.ev (.nilCheck rfl) rfl rfl ?_
    refine RL.ev (.field0 fo25_3 rfl) rfl rfl ?_
    refine RL.store sh22 rfl rfl rfl hb (by exact Nat.le_of_ble_eq_true rfl) (by rfl) rfl (fun w11 z11 hb a11 => ?_)
    have G := G.trans a11
    have hb_3 := hb_3.upd a11 n__3.symm
    have hb_4 := hb_4.upd a11 n__4.symm
    have hb_6 := hb_6.upd a11 n__6.symm
    have hF' := hF'.updD a11 d_hF'_b
    have hb : Has w11 b ([.slice p.a1 m.map.length p.c1, .slice p.a2 m.tab.length p.c2, .slice p.a3 m.row.length p.c3, .slice a' (heapM m.heap o).1.length c']) _ := hb
    refine RL.nil (RC.back ?_)
    refine RC.seq ?_
    refine RC.region rfl ?_
    refine RL.ev (.loadR ([.int .i64 (heapM m.heap o).2.e, .int .i64 (heapM m.heap o).2.a, .int .i64 (heapM m.heap o).2.b]) sh39 rfl hb_6.row rfl) rfl rfl ?_
    refine RL.store sh39 rfl rfl rfl hb_4 (by exact Nat.le_of_ble_eq_true rfl) (by rfl) rfl (fun w12 z12 hb_4 a12 => ?_)
    have hb := hb.upd a12 n__4
    have G := agNew G a12 geG_4
    have hb_3 := hb_3.upd a12 n_3__4
    have hb_6 := hb_6.upd a12 n_4__6.symm
    have hF' := hF'.updD a12 d_hF'_b_4
    have hb_4 : Has w12 b_4 ([.int .i64 (heapM m.heap o).2.e, .int .i64 (heapM m.heap o).2.a, .int .i64 (heapM m.heap o).2.b]) _ := hb_4.now (by kernel_rfl)
    refine RL.nil (RC.back ?_)
    refine RC.done (rs := [.cell 4 39]) (vs := [_]) rfl rfl ⟨⟨_, rfl, .inr ⟨[.int .i64 (heapM m.heap o).2.e, .int .i64 (heapM m.heap o).2.a, .int .i64 (heapM m.heap o).2.b], sh39, hb_4.row, rfl⟩⟩, trivial⟩ ?_
    -- end 2
    exact ⟨a', c', M', rfl, hc', hF', hup, hb, G⟩
end Go.Proofs.Ytjafbffehmombaa
set_option linter.unusedVariables false
set_option linter.unusedSimpArgs false
namespace Go.Proofs.Ytjafbffehmombaa
open Go Go.XL
def doM (m : Mo) (o : OpT) : Mo × ResT :=
  if o.box = 1 then ({ m with map := (pairsM m.map o).1 }, (pairsM m.map o).2)
  else if o.box = 2 then ({ m with tab := (pairsM m.tab o).1 }, (pairsM m.tab o).2)
  else if o.box = 3 then ({ m with row := (rowM m.row o).1 }, (rowM m.row o).2)
  else ({ m with heap := (heapM m.heap o).1 }, (heapM m.heap o).2)
theorem rowM_len {l : List Int} {o : OpT} (h : l.length ≤ 200) : (rowM l o).1.length ≤ 200 := by
  unfold rowM
  repeat' split
  all_goals simp <;> omega
theorem delL_le (l : List It) (key : Int) : (delL l key).length ≤ l.length := List.length_filter_le _ _
/-- the row behind an operation on keys -/
theorem pairsM_row (l : List It) (o : OpT) : (pairsM l o).1 = l ∨ (pairsM l o).1 = delL l o.a ∨ ((pairsM l o).1 = putL l o.a o.b ∧ (hasK l o.a = true ∨ l.length < 200 ∧ (o.box = 2 → crowdL l o.a < 9))) := by
  unfold pairsM
  dsimp only
  split
  · exact .inl rfl
  · split
    · split
      · exact .inl rfl
      · rename_i h
        refine .inr (.inr ⟨rfl, ?_⟩)
        cases hh : hasK l o.a with
        | true => exact .inl rfl
        | false =>
          rw [hh] at h
          simp only [true_and, not_or, not_and] at h
          exact .inr ⟨by omega, fun e => by have := h.2 e; omega⟩
    · split
      · split <;> (try split) <;> exact .inl rfl
      · split
        · exact .inl rfl
        · split
          · exact .inl rfl
          · split
            · exact .inr (.inl rfl)
            · exact .inl rfl
theorem putL_size {l : List It} (hs : Srt l) (key v : Int) : (putL l key v).length = if hasK l key then l.length else l.length + 1 := by
  obtain ⟨g0, g1, g2, g3⟩ := part_has (key := key) hs rfl
  cases hh : hasK l key with
  | true =>
    obtain ⟨x, hx, e⟩ := g0.1 hh
    have := lt_of_get hx
    rw [put_has hs hx e, List.length_append, List.length_cons, List.length_take, List.length_drop, if_pos rfl]
    omega
  | false =>
    rw [put_no hs rfl hh, List.length_append, List.length_cons, List.length_take, List.length_drop, if_neg (by simp)]
    omega
theorem pairsM_ok {l : List It} {o : OpT} (hs : Srt l) (hi : ∀ x ∈ l, inK x) (hl : l.length ≤ 200) (hok : okP o) : Srt (pairsM l o).1 ∧ (∀ x ∈ (pairsM l o).1, inK x) ∧ (pairsM l o).1.length ≤ 200 := by
  rcases pairsM_row l o with e | e | ⟨e, h⟩ <;> rw [e]
  · exact ⟨hs, hi, hl⟩
  · exact ⟨hs.sub, fun x hx => hi x (filter_sub hx), Nat.le_trans (delL_le l o.a) hl⟩
  · refine ⟨hs.put, fun x hx => ?_, ?_⟩
    · rcases putL_mem hx with rfl | hx
      · exact ⟨hok.2.1, hok.2.2.1⟩
      · exact hi x hx
    · rw [putL_size hs]
      rcases h with h | h
      · rw [h, if_pos rfl]; exact hl
      · split <;> omega
theorem crowdL_app (l r : List It) (k : Int) : crowdL (l ++ r) k = crowdL l k + crowdL r k := by
  unfold crowdL; rw [List.filter_append, List.length_append]
theorem crowdL_cons (x : It) (l : List It) (k : Int) : crowdL (x :: l) k = (if hashOf x.k = hashOf k then 1 else 0) + crowdL l k := by
  unfold crowdL
  rw [List.filter_cons]
  by_cases h : hashOf x.k = hashOf k
  · rw [if_pos (decide_eq_true h), if_pos h, List.length_cons]; omega
  · rw [if_neg (by rw [decide_eq_false h]; simp), if_neg h]; omega
theorem crowdL_hash {k k' : Int} (h : hashOf k = hashOf k') (l : List It) : crowdL l k = crowdL l k' := by unfold crowdL; rw [h]
theorem crowdL_del (l : List It) (key k : Int) : crowdL (delL l key) k ≤ crowdL l k := by
  unfold crowdL delL
  exact ((List.filter_sublist).filter _).length_le
theorem pairsM_crowd {l : List It} {o : OpT} (hs : Srt l) (hc : ∀ x ∈ l, crowdL l x.k ≤ 9) (hb : o.box = 2) : ∀ x ∈ (pairsM l o).1, crowdL (pairsM l o).1 x.k ≤ 9 := by
  rcases pairsM_row l o with e | e | ⟨e, h⟩ <;> rw [e]
  · exact hc
  · exact fun x hx => Nat.le_trans (crowdL_del l o.a x.k) (hc x (filter_sub hx))
  · obtain ⟨n, hn⟩ : ∃ n, n = (ltL o.a l).length := ⟨_, rfl⟩
    obtain ⟨g0, g1, g2, g3⟩ := part_has (key := o.a) hs hn
    cases hh : hasK l o.a with
    | true =>
      obtain ⟨y, hy, e⟩ := g0.1 hh
      have e1 := put_has hs hy e (v := o.b)
      have e2 := split_get hy
      rw [e1]
      have key : ∀ k, crowdL (l.take n ++ ⟨o.a, o.b⟩ :: l.drop (n + 1)) k = crowdL l k := fun k => by
        conv => rhs; rw [e2]
        rw [crowdL_app, crowdL_app, crowdL_cons, crowdL_cons, e]
      intro x hx
      rw [key]
      rcases List.mem_append.1 hx with hx | hx
      · exact hc x (List.mem_of_mem_take hx)
      · rcases List.mem_cons.1 hx with rfl | hx
        · have := hc y (List.mem_of_getElem? hy); rwa [e] at this
        · exact hc x (List.mem_of_mem_drop hx)
    | false =>
      have e1 := put_no hs hn hh (v := o.b)
      rw [e1]
      have key : ∀ k, crowdL (l.take n ++ ⟨o.a, o.b⟩ :: l.drop n) k = crowdL l k + (if hashOf o.a = hashOf k then 1 else 0) := fun k => by
        conv => rhs; rw [← List.take_append_drop n l]
        have c : crowdL (⟨o.a, o.b⟩ :: l.drop n) k = (if hashOf o.a = hashOf k then 1 else 0) + crowdL (l.drop n) k := crowdL_cons _ _ _
        rw [crowdL_app, crowdL_app, c]; omega
      have h9 : crowdL l o.a < 9 := by
        rcases h with h | h
        · rw [hh] at h; cases h
        · exact h.2 hb
      intro x hx
      rw [key]
      by_cases q : hashOf o.a = hashOf x.k
      · rw [if_pos q, ← crowdL_hash q]; omega
      · rw [if_neg q]
        rcases List.mem_append.1 hx with hx | hx
        · exact hc x (List.mem_of_mem_take hx)
        · rcases List.mem_cons.1 hx with rfl | hx
          · exact absurd rfl q
          · exact hc x (List.mem_of_mem_drop hx)
theorem ins_get {l : List It} {x : It} {n : Nat} (hn : n ≤ l.length) (i : Nat) : (l.take n ++ x :: l.drop n)[i]? = if i < n then l[i]? else if i = n then some x else l[i - 1]? := by
  have hl : (l.take n).length = n := by rw [List.length_take]; omega
  by_cases h : i < n
  · rw [if_pos h, List.getElem?_append_left (by omega), List.getElem?_take_of_lt h]
  · rw [if_neg h, List.getElem?_append_right (by omega), hl]
    by_cases h2 : i = n
    · subst h2; rw [if_pos rfl, Nat.sub_self]; rfl
    · rw [if_neg h2, show i - n = (i - 1 - n) + 1 by omega, List.getElem?_cons_succ, List.getElem?_drop]; congr 1; omega
theorem whN_spec (x : It) : ∀ (l : List It), whN l x ≤ l.length ∧ (∀ k z, k < whN l x → l[k]? = some z → lessP z x) ∧ (∀ z, l[whN l x]? = some z → ¬ lessP z x)
  | [] => ⟨Nat.le_refl _, fun k z _ h => by simp at h, fun z h => by simp at h⟩
  | y :: l => by
    obtain ⟨h1, h2, h3⟩ := whN_spec x l
    by_cases q : lessP y x
    · have e : whN (y :: l) x = whN l x + 1 := by unfold whN; rw [List.takeWhile_cons, decide_eq_true q]; rfl
      rw [e]
      refine ⟨by simpa using h1, fun k z hk hz => ?_, fun z hz => h3 z (by simpa using hz)⟩
      cases k with
      | zero => simp at hz; subst hz; exact q
      | succ k => exact h2 k z (by omega) (by simpa using hz)
    · have e : whN (y :: l) x = 0 := by unfold whN; rw [List.takeWhile_cons, decide_eq_false q]; rfl
      rw [e]
      exact ⟨Nat.zero_le _, fun k z hk => absurd hk (Nat.not_lt_zero _), fun z hz => by simp at hz; subst hz; exact q⟩
theorem SrtH.ins {l : List It} (h : SrtH l) (x : It) : SrtH (l.take (whN l x) ++ x :: l.drop (whN l x)) := by
  obtain ⟨h1, h2, h3⟩ := whN_spec x l
  intro i y z hy hz
  rw [ins_get h1] at hy hz
  by_cases c1 : i + 1 < whN l x
  · rw [if_pos (by omega)] at hy; rw [if_pos c1] at hz; exact h i y z hy hz
  · rw [if_neg c1] at hz
    by_cases c2 : i + 1 = whN l x
    · rw [if_pos c2] at hz
      rw [if_pos (by omega)] at hy
      cases hz
      have := h2 i y (by omega) hy
      unfold lessP at *; omega
    · rw [if_neg c2] at hz
      rw [if_neg (by omega)] at hy
      by_cases c3 : i = whN l x
      · rw [if_pos c3] at hy
        cases hy
        exact h3 z (by rw [← hz]; congr 1; omega)
      · rw [if_neg c3] at hy
        exact h (i - 1) y z hy (by rw [← hz]; congr 1; omega)
theorem heapM_ok {l : List It} {o : OpT} (hs : SrtH l) (hi : ∀ x ∈ l, inK x) (hl : l.length ≤ 200) (hok : okP o) : SrtH (heapM l o).1 ∧ (∀ x ∈ (heapM l o).1, inK x) ∧ (heapM l o).1.length ≤ 200 := by
  unfold heapM
  split
  · exact ⟨hs, hi, hl⟩
  · split
    · split
      · exact ⟨hs, hi, hl⟩
      · obtain ⟨h1, _, _⟩ := whN_spec ⟨o.a, o.b⟩ l
        refine ⟨hs.ins _, fun x hx => ?_, by simp only [List.length_append, List.length_cons, List.length_take, List.length_drop]; omega⟩
        rcases List.mem_append.1 hx with hx | hx
        · exact hi x (List.mem_of_mem_take hx)
        · rcases List.mem_cons.1 hx with rfl | hx
          · exact ⟨hok.2.1, hok.2.2.1⟩
          · exact hi x (List.mem_of_mem_drop hx)
    · split
      · exact ⟨hs, hi, hl⟩
      · split
        · exact ⟨fun i x y hx hy => hs (1 + i) x y (by rw [← List.getElem?_drop]; exact hx) (by rw [Nat.add_assoc, ← List.getElem?_drop]; exact hy), fun x hx => hi x (List.mem_of_mem_drop hx), by simp only [List.length_drop]; omega⟩
        · exact ⟨hs, hi, hl⟩
theorem rightM_do {m : Mo} {o : OpT} (h : rightM m) (hok : okP o) : rightM (doM m o).1 := by
  obtain ⟨h1, h2, h3, h4, h5, h6, h7, h8⟩ := (rightM_iff m).1 h
  rw [rightM_iff]
  unfold doM
  split
  · obtain ⟨a, b, c⟩ := pairsM_ok h7 h3.1 h3.2 hok
    exact ⟨h1, h2, ⟨b, c⟩, h4, h5, h6, a, h8⟩
  · split
    · rename_i hb
      obtain ⟨a, b, c⟩ := pairsM_ok h8 h4.1 h4.2 hok
      exact ⟨h1, pairsM_crowd h8 h2 hb, h3, ⟨b, c⟩, h5, h6, h7, a⟩
    · split
      · exact ⟨h1, h2, h3, h4, h5, rowM_len h6, h7, h8⟩
      · obtain ⟨a, b, c⟩ := heapM_ok (o := o) h1 h5.1 h5.2 hok
        exact ⟨a, h2, h3, h4, ⟨b, c⟩, h6, h7, h8⟩
end Go.Proofs.Ytjafbffehmombaa
set_option linter.unusedVariables false
set_option linter.unusedSimpArgs false
namespace Go.Proofs.Ytjafbffehmombaa
open Go Go.XL
theorem Up.or {C C1 C2 : Nat → Prop} {w : World} (h : Up C w C1) (k : Up C w C2) : Up C w (fun x => C1 x ∨ C2 x) := fun i hi => hi.elim (h i) (k i)
theorem MoS.of {p : Ph} {m : Mo} (k1 : m.map.length ≤ p.c1) (k2 : m.tab.length ≤ p.c2) (k3 : m.row.length ≤ p.c3) (k4 : m.heap.length ≤ p.c4) (h : rightM m) : MoS p m := by
  have := (rightM_iff m).1 h
  exact ⟨k1, k2, k3, k4, by omega, by omega, by omega, by omega⟩
theorem Ft.all {M : Nat → Prop} {p : Ph} {m : Mo} {w : World} (h1 : Ft M (fun u => Sl u p.a1 2 (m.map.map It.cells)) w) (h2 : Ft M (fun u => Sl u p.a2 2 (m.tab.map It.cells)) w) (h3 : Ft M (fun u => Sl u p.a3 1 (m.row.map fun x => [i6 x])) w) (h4 : Ft M (fun u => Sl u p.a4 2 (m.heap.map It.cells)) w) : Ft M (fun u => MoR u p m) w :=
  ⟨h1.lt, fun u a => ⟨h1.imm u a, h2.imm u a, h3.imm u a, h4.imm u a⟩⟩
theorem Ft.wid {M M' : Nat → Prop} {I : World → Prop} {w : World} (h : Ft M I w) (hl : ∀ k, M' k → k < w.heap.size) (hn : ∀ k, M k → M' k) : Ft M' I w :=
  ⟨hl, fun u a => h.imm u (a.mono fun k _ e hk => e (hn k hk))⟩
def boxF (k : Int) : FuncId := if k = 1 then 61 else if k = 2 then 63 else if k = 3 then 64 else 66
theorem box_cases {o : OpT} (hok : okP o) : o.box = 1 ∨ o.box = 2 ∨ o.box = 3 ∨ o.box = 4 := by have := hok.1; unfold kindP at this; omega
theorem boxF_ok (k : Int) : calleeOK Try.prog (boxF k) = true := by
  unfold boxF
  repeat' split
  all_goals first | exact ok61 | exact ok63 | exact ok64 | exact ok66
theorem boxF_at {o : OpT} (hok : okP o) : (#[Value.func (.func 61) #[] #[], .func (.func 63) #[] #[], .func (.func 64) #[] #[], .func (.func 66) #[] #[]] : Array Value)[(o.box - 1).toNat * 1]? = some (.func (.func (boxF o.box)) #[] #[]) := by
  rcases box_cases hok with e | e | e | e <;> rw [e] <;> rfl
/-- what is done by any container's operations -/
theorem c_box (b : Nat) (p : Ph) (m : Mo) (hs : MoS p m) (hR : rightM m) (o : OpT) (hok : okP o) (w : World) (M : Nat → Prop) (hF : Ft M (fun u => MoR u p m) w) (hb : Has w b (moC p m) 25) (hn : ∀ k, M k → k ≠ b) :
    FC Try.prog (boxF o.box) [.pointer (some ⟨b, 0, none⟩), .agg o.cells.toArray] w (fun u w' => ∃ p' M', u = .agg (doM m o).2.cells.toArray ∧ MoS p' (doM m o).1 ∧ Ft M' (fun u => MoR u p' (doM m o).1) w' ∧ Up M w M' ∧ Has w' b (moC p' (doM m o).1) 25 ∧ Agr (· = b) w w') := by
  have hRd := rightM_do hR hok
  obtain ⟨h1, h2, h3, h4, h5, h6, h7, h8⟩ := (rightM_iff m).1 hR
  rcases box_cases hok with e | e | e | e
  · have hd : doM m o = ({ m with map := (pairsM m.map o).1 }, (pairsM m.map o).2) := by unfold doM; rw [if_pos e]
    rw [hd] at hRd ⊢
    rw [e, show boxF 1 = 61 from rfl]
    refine FC.mono (c_box1 b p m h7 h3.2 hs.k1 o hok w M (hF.imp fun u h => h.h1) hb hn) ?_
    rintro v w' ⟨a', c', M', rfl, hc', hF', hup, hb', ag⟩
    have hF2 := hF.updD ag hn
    have hl : ∀ k, (M k ∨ M' k) → k < w'.heap.size := fun k hk => hk.elim (hF2.lt k) (hF'.lt k)
    refine ⟨{ p with a1 := a', c1 := c' }, fun k => M k ∨ M' k, rfl, MoS.of hc' hs.k2 hs.k3 hs.k4 hRd, Ft.all (p := { p with a1 := a', c1 := c' }) (hF'.wid hl fun _ h => .inr h) ((hF2.imp fun u h => h.h2).wid hl fun _ h => .inl h) ((hF2.imp fun u h => h.h3).wid hl fun _ h => .inl h) ((hF2.imp fun u h => h.h4).wid hl fun _ h => .inl h), (Up.refl _ _).or hup, hb', ag⟩
  · have hd : doM m o = ({ m with tab := (pairsM m.tab o).1 }, (pairsM m.tab o).2) := by unfold doM; rw [if_neg (by omega), if_pos e]
    rw [hd] at hRd ⊢
    rw [e, show boxF 2 = 63 from rfl]
    refine FC.mono (c_box2 b p m h8 h4.2 hs.k2 o hok w M (hF.imp fun u h => h.h2) hb hn) ?_
    rintro v w' ⟨a', c', M', rfl, hc', hF', hup, hb', ag⟩
    have hF2 := hF.updD ag hn
    have hl : ∀ k, (M k ∨ M' k) → k < w'.heap.size := fun k hk => hk.elim (hF2.lt k) (hF'.lt k)
    refine ⟨{ p with a2 := a', c2 := c' }, fun k => M k ∨ M' k, rfl, MoS.of hs.k1 hc' hs.k3 hs.k4 hRd, Ft.all (p := { p with a2 := a', c2 := c' }) ((hF2.imp fun u h => h.h1).wid hl fun _ h => .inl h) (hF'.wid hl fun _ h => .inr h) ((hF2.imp fun u h => h.h3).wid hl fun _ h => .inl h) ((hF2.imp fun u h => h.h4).wid hl fun _ h => .inl h), (Up.refl _ _).or hup, hb', ag⟩
  · have hd : doM m o = ({ m with row := (rowM m.row o).1 }, (rowM m.row o).2) := by unfold doM; rw [if_neg (by omega), if_neg (by omega), if_pos e]
    rw [hd] at hRd ⊢
    rw [e, show boxF 3 = 64 from rfl]
    refine FC.mono (c_box3 b p m trivial h6 hs.k3 o hok w M (hF.imp fun u h => h.h3) hb hn) ?_
    rintro v w' ⟨a', c', M', rfl, hc', hF', hup, hb', ag⟩
    have hF2 := hF.updD ag hn
    have hl : ∀ k, (M k ∨ M' k) → k < w'.heap.size := fun k hk => hk.elim (hF2.lt k) (hF'.lt k)
    refine ⟨{ p with a3 := a', c3 := c' }, fun k => M k ∨ M' k, rfl, MoS.of hs.k1 hs.k2 hc' hs.k4 hRd, Ft.all (p := { p with a3 := a', c3 := c' }) ((hF2.imp fun u h => h.h1).wid hl fun _ h => .inl h) ((hF2.imp fun u h => h.h2).wid hl fun _ h => .inl h) (hF'.wid hl fun _ h => .inr h) ((hF2.imp fun u h => h.h4).wid hl fun _ h => .inl h), (Up.refl _ _).or hup, hb', ag⟩
  · have hd : doM m o = ({ m with heap := (heapM m.heap o).1 }, (heapM m.heap o).2) := by unfold doM; rw [if_neg (by omega), if_neg (by omega), if_neg (by omega)]
    rw [hd] at hRd ⊢
    rw [e, show boxF 4 = 66 from rfl]
    refine FC.mono (c_box4 b p m h1 h5.2 hs.k4 o hok w M (hF.imp fun u h => h.h4) hb hn) ?_
    rintro v w' ⟨a', c', M', rfl, hc', hF', hup, hb', ag⟩
    have hF2 := hF.updD ag hn
    have hl : ∀ k, (M k ∨ M' k) → k < w'.heap.size := fun k hk => hk.elim (hF2.lt k) (hF'.lt k)
    refine ⟨{ p with a4 := a', c4 := c' }, fun k => M k ∨ M' k, rfl, MoS.of hs.k1 hs.k2 hs.k3 hc' hRd, Ft.all (p := { p with a4 := a', c4 := c' }) ((hF2.imp fun u h => h.h1).wid hl fun _ h => .inl h) ((hF2.imp fun u h => h.h2).wid hl fun _ h => .inl h) ((hF2.imp fun u h => h.h3).wid hl fun _ h => .inl h) (hF'.wid hl fun _ h => .inr h), (Up.refl _ _).or hup, hb', ag⟩
/-- an answer: what the containers hold then, and what is told -/
def AnsM (M : Nat → Prop) (w w' : World) (q : Mo × ResT) (u : Value) : Prop := Sub w w' ∧ ∃ p' M', u = .tuple #[moV p' q.1, .agg q.2.cells.toArray] ∧ MoS p' q.1 ∧ Ft M' (fun u => MoR u p' q.1) w' ∧ Up M w M'
theorem c_do (p : Ph) (m : Mo) (hs : MoS p m) (hR : rightM m) (o : OpT) (hok : okP o) (w : World) (M : Nat → Prop) (hF : Ft M (fun u => MoR u p m) w) :
    FC Try.prog 26 [moV p m, .agg o.cells.toArray] w (fun u w' => AnsM M w w' (doM m o) u) := by
  have hbx := box_cases hok
  refine FC.intro Try.func26 rfl Try.ntmps26 rfl ?_
  have S := Sub.refl w
  refine RC.seq ?_
  refine RC.region rfl ?_
  refine RL.box rfl rfl rfl (fun b_2 w_2 e_2 z_2 hb_2 s_2 => ?_)
  have ge_2 := S.le e_2
  have d_hF_b_2 := hF.neNew e_2
  have S := S.trans s_2
  have hF := hF.sub s_2
  have hb_2 : Has w_2 b_2 ([.slice p.a1 m.map.length p.c1, .slice p.a2 m.tab.length p.c2, .slice p.a3 m.row.length p.c3, .slice p.a4 m.heap.length p.c4]) _ := hb_2
  refine RL.box rfl rfl rfl (fun b_3 w_3 e_3 z_3 hb_3 s_3 => ?_)
  have ge_3 := S.le e_3
  have n_2__3 := hb_2.ne e_3
  have d_hF_b_3 := hF.neNew e_3
  have S := S.trans s_3
  have hF := hF.sub s_3
  have hb_2 := hb_2.sub s_3
  have hb_3 : Has w_3 b_3 ([.int .i64 o.box, .int .i64 o.kind, .int .i64 o.a, .int .i64 o.b]) _ := hb_3
  refine RL.alloc ze25 rfl rfl (fun b_4 w_4 e_4 z_4 hb_4 s_4 => ?_)
  have ge_4 := S.le e_4
  have n_2__4 := hb_2.ne e_4
  have n_3__4 := hb_3.ne e_4
  have d_hF_b_4 := hF.neNew e_4
  have S := S.trans s_4
  have hF := hF.sub s_4
  have hb_2 := hb_2.sub s_4
  have hb_3 := hb_3.sub s_4
  refine RL.alloc ze39 rfl rfl (fun b_5 w_5 e_5 z_5 hb_5 s_5 => ?_)
  have ge_5 := S.le e_5
  have n_2__5 := hb_2.ne e_5
  have n_3__5 := hb_3.ne e_5
  have n_4__5 := hb_4.ne e_5
  have d_hF_b_5 := hF.neNew e_5
  have S := S.trans s_5
  have hF := hF.sub s_5
  have hb_2 := hb_2.sub s_5
  have hb_3 := hb_3.sub s_5
  have hb_4 := hb_4.sub s_5
  refine RL.nil (RC.back ?_)
  refine RC.seq ?_
  refine RC.drawD (fun k => k = b_2) [6, 8] w_5.heap.size 9 rfl rfl mxo (fun w1 s2 => ?_)
  have hNN : ∀ k, ((k = b_2) ∨ w_5.heap.size ≤ k) → w.heap.size ≤ k := fun k e => e.elim (fun e => e ▸ ge_2) (fun e => Nat.le_trans S.size e)
  have ent_S := S.size
  have hN0 : ∀ k, w_5.heap.size ≤ k → w.heap.size ≤ k := fun k e => Nat.le_trans S.size e
  have ltD_hF := fun k hk => (hF.ge k hk).2
  have ltD_b_2 := hb_2.lt
  have ltD_b_3 := hb_3.lt
  have ltD_b_4 := hb_4.lt
  have ltD_b_5 := hb_5.lt
  have szD := Nat.le_refl w_5.heap.size
  have S := S.trans s2
  have hF := hF.sub s2
  have hb_2 := hb_2.sub s2
  have hb_3 := hb_3.sub s2
  have hb_4 := hb_4.sub s2
  have hb_5 := hb_5.sub s2
  have szD := Nat.le_trans szD s2.size
  refine RD.take 1 rfl (by kernel_rfl) (by kernel_rfl) (by kernel_rfl) (fun w' s' => .field0 fo34_0 rfl) rfl rfl ?_
  refine RD.take 2 rfl (by kernel_rfl) (by kernel_rfl) (by kernel_rfl) (fun w' s' => .load1 sh3 rfl ((hb_3.step s' (fun e => e.elim (fun e => n_2__3.symm e) (fun e => Nat.not_le.2 ltD_b_3 e))).cell rfl)) rfl rfl ?_
  refine RD.take 3 rfl (by kernel_rfl) (by kernel_rfl) (by kernel_rfl) (fun w' s' => .as (.bin rfl rfl rfl) (wi64 (y := o.box - 1) (by omega) (by omega))) rfl rfl ?_
  refine RD.take 5 rfl (by kernel_rfl) (by kernel_rfl) (by kernel_rfl) (fun w' s' => .loadR ([.int .i64 o.box, .int .i64 o.kind, .int .i64 o.a, .int .i64 o.b]) sh34 rfl (hb_3.step s' (fun e => e.elim (fun e => n_2__3.symm e) (fun e => Nat.not_le.2 ltD_b_3 e))).row rfl) rfl rfl ?_
  refine RD.all [0, 7] (by kernel_rfl) rfl (RDs.cons rfl ?_ (RDs.cons rfl ?_ (RDs.nil)))
  ·
    refine RL.call rfl ok50 (c_boxes w1) rfl rfl ?_
    rintro _ w3 ⟨rfl, s4⟩
    have S := S.trans s4
    have hF := hF.sub s4
    have hb_2 := hb_2.sub s4
    have hb_3 := hb_3.sub s4
    have hb_4 := hb_4.sub s4
    have hb_5 := hb_5.sub s4
    have szD := Nat.le_trans szD s4.size
    refine RD.back s4.agr ?_
    refine RD.take 4 rfl (by kernel_rfl) (by kernel_rfl) (by kernel_rfl) (fun w' s' => .index1 ar82 sh81 rfl rfl (by omega) (boxF_at hok)) rfl rfl ?_
    refine RD.all [6, 7] (by kernel_rfl) rfl (RDs.cons rfl ?_ (RDs.cons rfl ?_ (RDs.nil)))
    ·
      refine RL.callv rfl rfl (us := []) (cs := []) (boxF_ok o.box) (c_box b_2 p m hs hR o hok w3 M hF hb_2 d_hF_b_2) rfl rfl ?_
      rintro _ w5 ⟨p', M', rfl, hs', hF', hup, hb_2', a13⟩
      have d_hF'_b_2 := upNe hup d_hF_b_2 hb_2.lt
      have d_hF'_b_3 := upNe hup d_hF_b_3 hb_3.lt
      have d_hF'_b_4 := upNe hup d_hF_b_4 hb_4.lt
      have d_hF'_b_5 := upNe hup d_hF_b_5 hb_5.lt
      have hup := hup.le S.size
      have S := S.agrN a13 (fun k e => e ▸ ge_2)
      have hF := hF.step a13 (fun k hk e => d_hF_b_2 k hk e)
      have hb_3 := hb_3.step a13 (fun e => n_2__3.symm e)
      have hb_4 := hb_4.step a13 (fun e => n_2__4.symm e)
      have hb_5 := hb_5.step a13 (fun e => n_2__5.symm e)
      have szD := Nat.le_trans szD a13.size
      have hb_2 := hb_2'
      refine RD.backW rfl (a13.mono fun k _ e => .inl e) ?_
      refine RD.all [7] (by kernel_rfl) rfl (RDs.cons rfl ?_ (RDs.nil))
      refine RL.alloc ze39 rfl rfl (fun b_6 w_6 e_6 z_6 hb_6 s_6 => ?_)
      have fr_b_6 : w_5.heap.size ≤ b_6 := by rw [e_6]; exact szD
      have ge_6 := S.le e_6
      have n_3__6 := hb_3.ne e_6
      have n_4__6 := hb_4.ne e_6
      have n_5__6 := hb_5.ne e_6
      have n_2__6 := hb_2.ne e_6
      have d_hF'_b_6 := hF'.neNew e_6
      have S := S.trans s_6
      have hb_3 := hb_3.sub s_6
      have hb_4 := hb_4.sub s_6
      have hb_5 := hb_5.sub s_6
      have szD := Nat.le_trans szD s_6.size
      have hb_2 := hb_2.sub s_6
      have hF' := hF'.sub s_6
      refine RD.back s_6.agr ?_
      refine RD.all [8] (by kernel_rfl) rfl (RDs.cons rfl ?_ (RDs.nil))
      refine RL.store sh39 rfl rfl rfl hb_6 (by exact Nat.le_of_ble_eq_true rfl) (by rfl) rfl (fun w7 z7 hb_6 a7 => ?_)
      have S := S.upd a7 ge_6
      have hb_3 := hb_3.upd a7 n_3__6
      have hb_4 := hb_4.upd a7 n_4__6
      have hb_5 := hb_5.upd a7 n_5__6
      have szD := Nat.le_trans szD a7.size
      have hb_2 := hb_2.upd a7 n_2__6
      have hF' := hF'.updD a7 d_hF'_b_6
      have hb_6 : Has w7 b_6 ([.int .i64 (doM m o).2.e, .int .i64 (doM m o).2.a, .int .i64 (doM m o).2.b]) _ := hb_6.now (by kernel_rfl)
      refine RD.backW rfl (a7.mono fun k _ e => e ▸ (.inr fr_b_6)) ?_
      refine RD.done (by kernel_rfl) (RC.back ?_)
      refine RC.seq ?_
      refine RC.drawD (fun k => k = b_4 ∨ k = b_5) [2, 3] w7.heap.size 4 rfl rfl mxo (fun w8 s9 => ?_)
      have hNN : ∀ k, ((k = b_4 ∨ k = b_5) ∨ w7.heap.size ≤ k) → w.heap.size ≤ k := fun k e => e.elim (fun e => e.elim (fun e => e ▸ ge_4) (fun e => e ▸ ge_5)) (fun e => Nat.le_trans S.size e)
      have ent_S := S.size
      have hN0 : ∀ k, w7.heap.size ≤ k → w.heap.size ≤ k := fun k e => Nat.le_trans S.size e
      have ltD_b_3 := hb_3.lt
      have ltD_b_4 := hb_4.lt
      have ltD_b_5 := hb_5.lt
      have ltD_b_2 := hb_2.lt
      have ltD_hF' := fun k hk => (hF'.ge k hk).2
      have ltD_b_6 := hb_6.lt
      have szD := Nat.le_refl w7.heap.size
      have S := S.trans s9
      have hb_3 := hb_3.sub s9
      have hb_4 := hb_4.sub s9
      have hb_5 := hb_5.sub s9
      have hb_2 := hb_2.sub s9
      have hF' := hF'.sub s9
      have hb_6 := hb_6.sub s9
      have szD := Nat.le_trans szD s9.size
      refine RD.take 0 rfl (by kernel_rfl) (by kernel_rfl) (by kernel_rfl) (fun w' s' => .loadR ([.slice p'.a1 (doM m o).1.map.length p'.c1, .slice p'.a2 (doM m o).1.tab.length p'.c2, .slice p'.a3 (doM m o).1.row.length p'.c3, .slice p'.a4 (doM m o).1.heap.length p'.c4]) sh25 rfl (hb_2.step s' (fun e => e.elim (fun e => e.elim (fun e => n_2__4 e) (fun e => n_2__5 e)) (fun e => Nat.not_le.2 ltD_b_2 e))).row rfl) rfl rfl ?_
      refine RD.take 1 rfl (by kernel_rfl) (by kernel_rfl) (by kernel_rfl) (fun w' s' => .loadR ([.int .i64 (doM m o).2.e, .int .i64 (doM m o).2.a, .int .i64 (doM m o).2.b]) sh39 rfl (hb_6.step s' (fun e => e.elim (fun e => e.elim (fun e => n_4__6.symm e) (fun e => n_5__6.symm e)) (fun e => Nat.not_le.2 ltD_b_6 e))).row rfl) rfl rfl ?_
      refine RD.all [2] (by kernel_rfl) rfl (RDs.cons rfl ?_ (RDs.nil))
      refine RL.store sh25 rfl rfl rfl hb_4 (by exact Nat.le_of_ble_eq_true rfl) (by rfl) rfl (fun w10 z10 hb_4 a10 => ?_)
      have S := S.upd a10 ge_4
      have hb_3 := hb_3.upd a10 n_3__4
      have hb_5 := hb_5.upd a10 n_4__5.symm
      have hb_2 := hb_2.upd a10 n_2__4
      have hF' := hF'.updD a10 d_hF'_b_4
      have hb_6 := hb_6.upd a10 n_4__6.symm
      have szD := Nat.le_trans szD a10.size
      have hb_4 : Has w10 b_4 ([.slice p'.a1 (doM m o).1.map.length p'.c1, .slice p'.a2 (doM m o).1.tab.length p'.c2, .slice p'.a3 (doM m o).1.row.length p'.c3, .slice p'.a4 (doM m o).1.heap.length p'.c4]) _ := hb_4.now (by kernel_rfl)
      refine RD.backW rfl (a10.mono fun k _ e => e ▸ (.inl (.inl rfl))) ?_
      refine RD.all [3] (by kernel_rfl) rfl (RDs.cons rfl ?_ (RDs.nil))
      refine RL.store sh39 rfl rfl rfl hb_5 (by exact Nat.le_of_ble_eq_true rfl) (by rfl) rfl (fun w11 z11 hb_5 a11 => ?_)
      have S := S.upd a11 ge_5
      have hb_3 := hb_3.upd a11 n_3__5
      have hb_4 := hb_4.upd a11 n_4__5
      have hb_2 := hb_2.upd a11 n_2__5
      have hF' := hF'.updD a11 d_hF'_b_5
      have hb_6 := hb_6.upd a11 n_5__6.symm
      have szD := Nat.le_trans szD a11.size
      have hb_5 : Has w11 b_5 ([.int .i64 (doM m o).2.e, .int .i64 (doM m o).2.a, .int .i64 (doM m o).2.b]) _ := hb_5.now (by kernel_rfl)
      refine RD.backW rfl (a11.mono fun k _ e => e ▸ (.inl (.inr (rfl)))) ?_
      refine RD.done (by kernel_rfl) (RC.back ?_)
      refine RC.done (rs := [.cell 4 25, .cell 5 39]) (vs := [_, _]) rfl rfl ⟨⟨_, rfl, .inr ⟨[.slice p'.a1 (doM m o).1.map.length p'.c1, .slice p'.a2 (doM m o).1.tab.length p'.c2, .slice p'.a3 (doM m o).1.row.length p'.c3, .slice p'.a4 (doM m o).1.heap.length p'.c4], sh25, hb_4.row, rfl⟩⟩, ⟨_, rfl, .inr ⟨[.int .i64 (doM m o).2.e, .int .i64 (doM m o).2.a, .int .i64 (doM m o).2.b], sh39, hb_5.row, rfl⟩⟩, trivial⟩ ?_
      -- end 1
      exact ⟨S, p', M', rfl, hs', hF', hup⟩
    ·
      refine RL.alloc ze39 rfl rfl (fun b_6 w_6 e_6 z_6 hb_6 s_6 => ?_)
      have fr_b_6 : w_5.heap.size ≤ b_6 := by rw [e_6]; exact szD
      have ge_6 := S.le e_6
      have n_2__6 := hb_2.ne e_6
      have n_3__6 := hb_3.ne e_6
      have n_4__6 := hb_4.ne e_6
      have n_5__6 := hb_5.ne e_6
      have d_hF_b_6 := hF.neNew e_6
      have S := S.trans s_6
      have hF := hF.sub s_6
      have hb_2 := hb_2.sub s_6
      have hb_3 := hb_3.sub s_6
      have hb_4 := hb_4.sub s_6
      have hb_5 := hb_5.sub s_6
      have szD := Nat.le_trans szD s_6.size
      refine RD.back s_6.agr ?_
      refine RD.all [6] (by kernel_rfl) rfl (RDs.cons rfl ?_ (RDs.nil))
      refine RL.callv rfl rfl (us := []) (cs := []) (boxF_ok o.box) (c_box b_2 p m hs hR o hok w_6 M hF hb_2 d_hF_b_2) rfl rfl ?_
      rintro _ w12 ⟨p', M', rfl, hs', hF', hup, hb_2', a13⟩
      have d_hF'_b_2 := upNe hup d_hF_b_2 hb_2.lt
      have d_hF'_b_3 := upNe hup d_hF_b_3 hb_3.lt
      have d_hF'_b_4 := upNe hup d_hF_b_4 hb_4.lt
      have d_hF'_b_5 := upNe hup d_hF_b_5 hb_5.lt
      have d_hF'_b_6 := upNe hup d_hF_b_6 hb_6.lt
      have hup := hup.le S.size
      have S := S.agrN a13 (fun k e => e ▸ ge_2)
      have hF := hF.step a13 (fun k hk e => d_hF_b_2 k hk e)
      have hb_3 := hb_3.step a13 (fun e => n_2__3.symm e)
      have hb_4 := hb_4.step a13 (fun e => n_2__4.symm e)
      have hb_5 := hb_5.step a13 (fun e => n_2__5.symm e)
      have szD := Nat.le_trans szD a13.size
      have hb_6 := hb_6.step a13 (fun e => n_2__6.symm e)
      have hb_2 := hb_2'
      refine RD.backW rfl (a13.mono fun k _ e => .inl e) ?_
      refine RD.all [8] (by kernel_rfl) rfl (RDs.cons rfl ?_ (RDs.nil))
      refine RL.store sh39 rfl rfl rfl hb_6 (by exact Nat.le_of_ble_eq_true rfl) (by rfl) rfl (fun w14 z14 hb_6 a14 => ?_)
      have S := S.upd a14 ge_6
      have hb_3 := hb_3.upd a14 n_3__6
      have hb_4 := hb_4.upd a14 n_4__6
      have hb_5 := hb_5.upd a14 n_5__6
      have szD := Nat.le_trans szD a14.size
      have hb_2 := hb_2.upd a14 n_2__6
      have hF' := hF'.updD a14 d_hF'_b_6
      have hb_6 : Has w14 b_6 ([.int .i64 (doM m o).2.e, .int .i64 (doM m o).2.a, .int .i64 (doM m o).2.b]) _ := hb_6.now (by kernel_rfl)
      refine RD.backW rfl (a14.mono fun k _ e => e ▸ (.inr fr_b_6)) ?_
      refine RD.done (by kernel_rfl) (RC.back ?_)
      refine RC.seq ?_
      refine RC.drawD (fun k => k = b_4 ∨ k = b_5) [2, 3] w14.heap.size 4 rfl rfl mxo (fun w15 s16 => ?_)
      have hNN : ∀ k, ((k = b_4 ∨ k = b_5) ∨ w14.heap.size ≤ k) → w.heap.size ≤ k := fun k e => e.elim (fun e => e.elim (fun e => e ▸ ge_4) (fun e => e ▸ ge_5)) (fun e => Nat.le_trans S.size e)
      have ent_S := S.size
      have hN0 : ∀ k, w14.heap.size ≤ k → w.heap.size ≤ k := fun k e => Nat.le_trans S.size e
      have ltD_b_3 := hb_3.lt
      have ltD_b_4 := hb_4.lt
      have ltD_b_5 := hb_5.lt
      have ltD_b_6 := hb_6.lt
      have ltD_b_2 := hb_2.lt
      have ltD_hF' := fun k hk => (hF'.ge k hk).2
      have szD := Nat.le_refl w14.heap.size
      have S := S.trans s16
      have hb_3 := hb_3.sub s16
      have hb_4 := hb_4.sub s16
      have hb_5 := hb_5.sub s16
      have hb_6 := hb_6.sub s16
      have hb_2 := hb_2.sub s16
      have hF' := hF'.sub s16
      have szD := Nat.le_trans szD s16.size
      refine RD.take 0 rfl (by kernel_rfl) (by kernel_rfl) (by kernel_rfl) (fun w' s' => .loadR ([.slice p'.a1 (doM m o).1.map.length p'.c1, .slice p'.a2 (doM m o).1.tab.length p'.c2, .slice p'.a3 (doM m o).1.row.length p'.c3, .slice p'.a4 (doM m o).1.heap.length p'.c4]) sh25 rfl (hb_2.step s' (fun e => e.elim (fun e => e.elim (fun e => n_2__4 e) (fun e => n_2__5 e)) (fun e => Nat.not_le.2 ltD_b_2 e))).row rfl) rfl rfl ?_
      refine RD.take 1 rfl (by kernel_rfl) (by kernel_rfl) (by kernel_rfl) (fun w' s' => .loadR ([.int .i64 (doM m o).2.e, .int .i64 (doM m o).2.a, .int .i64 (doM m o).2.b]) sh39 rfl (hb_6.step s' (fun e => e.elim (fun e => e.elim (fun e => n_4__6.symm e) (fun e => n_5__6.symm e)) (fun e => Nat.not_le.2 ltD_b_6 e))).row rfl) rfl rfl ?_
      refine RD.all [2] (by kernel_rfl) rfl (RDs.cons rfl ?_ (RDs.nil))
      refine RL.store sh25 rfl rfl rfl hb_4 (by exact Nat.le_of_ble_eq_true rfl) (by rfl) rfl (fun w17 z17 hb_4 a17 => ?_)
      have S := S.upd a17 ge_4
      have hb_3 := hb_3.upd a17 n_3__4
      have hb_5 := hb_5.upd a17 n_4__5.symm
      have hb_6 := hb_6.upd a17 n_4__6.symm
      have hb_2 := hb_2.upd a17 n_2__4
      have hF' := hF'.updD a17 d_hF'_b_4
      have szD := Nat.le_trans szD a17.size
      have hb_4 : Has w17 b_4 ([.slice p'.a1 (doM m o).1.map.length p'.c1, .slice p'.a2 (doM m o).1.tab.length p'.c2, .slice p'.a3 (doM m o).1.row.length p'.c3, .slice p'.a4 (doM m o).1.heap.length p'.c4]) _ := hb_4.now (by kernel_rfl)
      refine RD.backW rfl (a17.mono fun k _ e => e ▸ (.inl (.inl rfl))) ?_
      refine RD.all [3] (by kernel_rfl) rfl (RDs.cons rfl ?_ (RDs.nil))
      refine RL.store sh39 rfl rfl rfl hb_5 (by exact Nat.le_of_ble_eq_true rfl) (by rfl) rfl (fun w18 z18 hb_5 a18 => ?_)
      have S := S.upd a18 ge_5
      have hb_3 := hb_3.upd a18 n_3__5
      have hb_4 := hb_4.upd a18 n_4__5
      have hb_6 := hb_6.upd a18 n_5__6.symm
      have hb_2 := hb_2.upd a18 n_2__5
      have hF' := hF'.updD a18 d_hF'_b_5
      have szD := Nat.le_trans szD a18.size
      have hb_5 : Has w18 b_5 ([.int .i64 (doM m o).2.e, .int .i64 (doM m o).2.a, .int .i64 (doM m o).2.b]) _ := hb_5.now (by kernel_rfl)
      refine RD.backW rfl (a18.mono fun k _ e => e ▸ (.inl (.inr (rfl)))) ?_
      refine RD.done (by kernel_rfl) (RC.back ?_)
      refine RC.done (rs := [.cell 4 25, .cell 5 39]) (vs := [_, _]) rfl rfl ⟨⟨_, rfl, .inr ⟨[.slice p'.a1 (doM m o).1.map.length p'.c1, .slice p'.a2 (doM m o).1.tab.length p'.c2, .slice p'.a3 (doM m o).1.row.length p'.c3, .slice p'.a4 (doM m o).1.heap.length p'.c4], sh25, hb_4.row, rfl⟩⟩, ⟨_, rfl, .inr ⟨[.int .i64 (doM m o).2.e, .int .i64 (doM m o).2.a, .int .i64 (doM m o).2.b], sh39, hb_5.row, rfl⟩⟩, trivial⟩ ?_
      -- end 2
      exact ⟨S, p', M', rfl, hs', hF', hup⟩
  ·
    refine RL.alloc ze39 rfl rfl (fun b_6 w_6 e_6 z_6 hb_6 s_6 => ?_)
    have fr_b_6 : w_5.heap.size ≤ b_6 := by rw [e_6]; exact szD
    have ge_6 := S.le e_6
    have n_2__6 := hb_2.ne e_6
    have n_3__6 := hb_3.ne e_6
    have n_4__6 := hb_4.ne e_6
    have n_5__6 := hb_5.ne e_6
    have d_hF_b_6 := hF.neNew e_6
    have S := S.trans s_6
    have hF := hF.sub s_6
    have hb_2 := hb_2.sub s_6
    have hb_3 := hb_3.sub s_6
    have hb_4 := hb_4.sub s_6
    have hb_5 := hb_5.sub s_6
    have szD := Nat.le_trans szD s_6.size
    refine RD.back s_6.agr ?_
    refine RD.all [0] (by kernel_rfl) rfl (RDs.cons rfl ?_ (RDs.nil))
    refine RL.call rfl ok50 (c_boxes w_6) rfl rfl ?_
    rintro _ w19 ⟨rfl, s20⟩
    have S := S.trans s20
    have hF := hF.sub s20
    have hb_2 := hb_2.sub s20
    have hb_3 := hb_3.sub s20
    have hb_4 := hb_4.sub s20
    have hb_5 := hb_5.sub s20
    have szD := Nat.le_trans szD s20.size
    have hb_6 := hb_6.sub s20
    refine RD.back s20.agr ?_
    refine RD.take 4 rfl (by kernel_rfl) (by kernel_rfl) (by kernel_rfl) (fun w' s' => .index1 ar82 sh81 rfl rfl (by omega) (boxF_at hok)) rfl rfl ?_
    refine RD.all [6] (by kernel_rfl) rfl (RDs.cons rfl ?_ (RDs.nil))
    refine RL.callv rfl rfl (us := []) (cs := []) (boxF_ok o.box) (c_box b_2 p m hs hR o hok w19 M hF hb_2 d_hF_b_2) rfl rfl ?_
    rintro _ w21 ⟨p', M', rfl, hs', hF', hup, hb_2', a13⟩
    have d_hF'_b_2 := upNe hup d_hF_b_2 hb_2.lt
    have d_hF'_b_3 := upNe hup d_hF_b_3 hb_3.lt
    have d_hF'_b_4 := upNe hup d_hF_b_4 hb_4.lt
    have d_hF'_b_5 := upNe hup d_hF_b_5 hb_5.lt
    have d_hF'_b_6 := upNe hup d_hF_b_6 hb_6.lt
    have hup := hup.le S.size
    have S := S.agrN a13 (fun k e => e ▸ ge_2)
    have hF := hF.step a13 (fun k hk e => d_hF_b_2 k hk e)
    have hb_3 := hb_3.step a13 (fun e => n_2__3.symm e)
    have hb_4 := hb_4.step a13 (fun e => n_2__4.symm e)
    have hb_5 := hb_5.step a13 (fun e => n_2__5.symm e)
    have szD := Nat.le_trans szD a13.size
    have hb_6 := hb_6.step a13 (fun e => n_2__6.symm e)
    have hb_2 := hb_2'
    refine RD.backW rfl (a13.mono fun k _ e => .inl e) ?_
    refine RD.all [8] (by kernel_rfl) rfl (RDs.cons rfl ?_ (RDs.nil))
    refine RL.store sh39 rfl rfl rfl hb_6 (by exact Nat.le_of_ble_eq_true rfl) (by rfl) rfl (fun w23 z23 hb_6 a23 => ?_)
    have S := S.upd a23 ge_6
    have hb_3 := hb_3.upd a23 n_3__6
    have hb_4 := hb_4.upd a23 n_4__6
    have hb_5 := hb_5.upd a23 n_5__6
    have szD := Nat.le_trans szD a23.size
    have hb_2 := hb_2.upd a23 n_2__6
    have hF' := hF'.updD a23 d_hF'_b_6
    have hb_6 : Has w23 b_6 ([.int .i64 (doM m o).2.e, .int .i64 (doM m o).2.a, .int .i64 (doM m o).2.b]) _ := hb_6.now (by kernel_rfl)
    refine RD.backW rfl (a23.mono fun k _ e => e ▸ (.inr fr_b_6)) ?_
    refine RD.done (by kernel_rfl) (RC.back ?_)
    refine RC.seq ?_
    refine RC.drawD (fun k => k = b_4 ∨ k = b_5) [2, 3] w23.heap.size 4 rfl rfl mxo (fun w24 s25 => ?_)
    have hNN : ∀ k, ((k = b_4 ∨ k = b_5) ∨ w23.heap.size ≤ k) → w.heap.size ≤ k := fun k e => e.elim (fun e => e.elim (fun e => e ▸ ge_4) (fun e => e ▸ ge_5)) (fun e => Nat.le_trans S.size e)
    have ent_S := S.size
    have hN0 : ∀ k, w23.heap.size ≤ k → w.heap.size ≤ k := fun k e => Nat.le_trans S.size e
    have ltD_b_3 := hb_3.lt
    have ltD_b_4 := hb_4.lt
    have ltD_b_5 := hb_5.lt
    have ltD_b_6 := hb_6.lt
    have ltD_b_2 := hb_2.lt
    have ltD_hF' := fun k hk => (hF'.ge k hk).2
    have szD := Nat.le_refl w23.heap.size
    have S := S.trans s25
    have hb_3 := hb_3.sub s25
    have hb_4 := hb_4.sub s25
    have hb_5 := hb_5.sub s25
    have hb_6 := hb_6.sub s25
    have hb_2 := hb_2.sub s25
    have hF' := hF'.sub s25
    have szD := Nat.le_trans szD s25.size
    refine RD.take 0 rfl (by kernel_rfl) (by kernel_rfl) (by kernel_rfl) (fun w' s' => .loadR ([.slice p'.a1 (doM m o).1.map.length p'.c1, .slice p'.a2 (doM m o).1.tab.length p'.c2, .slice p'.a3 (doM m o).1.row.length p'.c3, .slice p'.a4 (doM m o).1.heap.length p'.c4]) sh25 rfl (hb_2.step s' (fun e => e.elim (fun e => e.elim (fun e => n_2__4 e) (fun e => n_2__5 e)) (fun e => Nat.not_le.2 ltD_b_2 e))).row rfl) rfl rfl ?_
    refine RD.take 1 rfl (by kernel_rfl) (by kernel_rfl) (by kernel_rfl) (fun w' s' => .loadR ([.int .i64 (doM m o).2.e, .int .i64 (doM m o).2.a, .int .i64 (doM m o).2.b]) sh39 rfl (hb_6.step s' (fun e => e.elim (fun e => e.elim (fun e => n_4__6.symm e) (fun e => n_5__6.symm e)) (fun e => Nat.not_le.2 ltD_b_6 e))).row rfl) rfl rfl ?_
    refine RD.all [2] (by kernel_rfl) rfl (RDs.cons rfl ?_ (RDs.nil))
    refine RL.store sh25 rfl rfl rfl hb_4 (by exact Nat.le_of_ble_eq_true rfl) (by rfl) rfl (fun w26 z26 hb_4 a26 => ?_)
    have S := S.upd a26 ge_4
    have hb_3 := hb_3.upd a26 n_3__4
    have hb_5 := hb_5.upd a26 n_4__5.symm
    have hb_6 := hb_6.upd a26 n_4__6.symm
    have hb_2 := hb_2.upd a26 n_2__4
    have hF' := hF'.updD a26 d_hF'_b_4
    have szD := Nat.le_trans szD a26.size
    have hb_4 : Has w26 b_4 ([.slice p'.a1 (doM m o).1.map.length p'.c1, .slice p'.a2 (doM m o).1.tab.length p'.c2, .slice p'.a3 (doM m o).1.row.length p'.c3, .slice p'.a4 (doM m o).1.heap.length p'.c4]) _ := hb_4.now (by kernel_rfl)
    refine RD.backW rfl (a26.mono fun k _ e => e ▸ (.inl (.inl rfl))) ?_
    refine RD.all [3] (by kernel_rfl) rfl (RDs.cons rfl ?_ (RDs.nil))
    refine RL.store sh39 rfl rfl rfl hb_5 (by exact Nat.le_of_ble_eq_true rfl) (by rfl) rfl (fun w27 z27 hb_5 a27 => ?_)
    have S := S.upd a27 ge_5
    have hb_3 := hb_3.upd a27 n_3__5
    have hb_4 := hb_4.upd a27 n_4__5
    have hb_6 := hb_6.upd a27 n_5__6.symm
    have hb_2 := hb_2.upd a27 n_2__5
    have hF' := hF'.updD a27 d_hF'_b_5
    have szD := Nat.le_trans szD a27.size
    have hb_5 : Has w27 b_5 ([.int .i64 (doM m o).2.e, .int .i64 (doM m o).2.a, .int .i64 (doM m o).2.b]) _ := hb_5.now (by kernel_rfl)
    refine RD.backW rfl (a27.mono fun k _ e => e ▸ (.inl (.inr (rfl)))) ?_
    refine RD.done (by kernel_rfl) (RC.back ?_)
    refine RC.done (rs := [.cell 4 25, .cell 5 39]) (vs := [_, _]) rfl rfl ⟨⟨_, rfl, .inr ⟨[.slice p'.a1 (doM m o).1.map.length p'.c1, .slice p'.a2 (doM m o).1.tab.length p'.c2, .slice p'.a3 (doM m o).1.row.length p'.c3, .slice p'.a4 (doM m o).1.heap.length p'.c4], sh25, hb_4.row, rfl⟩⟩, ⟨_, rfl, .inr ⟨[.int .i64 (doM m o).2.e, .int .i64 (doM m o).2.a, .int .i64 (doM m o).2.b], sh39, hb_5.row, rfl⟩⟩, trivial⟩ ?_
    -- end 3
    exact ⟨S, p', M', rfl, hs', hF', hup⟩
end Go.Proofs.Ytjafbffehmombaa
set_option linter.unusedVariables false
set_option linter.unusedSimpArgs false
namespace Go.Proofs.Ytjafbffehmombaa
open Go Go.XL
theorem _root_.Go.XL.Has.is {w : World} {b : Nat} {cs : List Value} {e : TypeId} (h : Has w b cs e) (cs' : List Value) (hc : cs = cs') : Has w b cs' e := hc ▸ h
def p0 : Ph := ⟨none, 0, none, 0, none, 0, none, 0⟩
def m0 : Mo := ⟨[], [], [], []⟩
def res0 : ResT := ⟨0, 0, 0⟩
theorem m0_S : MoS p0 m0 := ⟨Nat.le_refl _, Nat.le_refl _, Nat.le_refl _, Nat.le_refl _, Nat.zero_le _, Nat.zero_le _, Nat.zero_le _, Nat.zero_le _⟩
theorem m0_F (M : Nat → Prop) {w : World} (h : ∀ k, M k → k < w.heap.size) : Ft M (fun u => MoR u p0 m0) w := ⟨h, fun u _ => ⟨Sl.nil _ _ _, Sl.nil _ _ _, Sl.nil _ _ _, Sl.nil _ _ _⟩⟩
/-- an answer: what the containers hold then, what is told, and whether it was refused -/
def AnsDo (M : Nat → Prop) (w w' : World) (m : Mo) (o : OpT) (u : Value) : Prop :=
  Sub w w' ∧ ∃ p' M', u = .tuple #[moV p' (if pB (rightM m ∧ okP o) then (doM m o).1 else m0), .agg (if pB (rightM m ∧ okP o) then (doM m o).2 else res0).cells.toArray, .int .i64 (if pB (rightM m ∧ okP o) then 0 else 1)] ∧ MoS p' (if pB (rightM m ∧ okP o) then (doM m o).1 else m0) ∧ Ft M' (fun u => MoR u p' (if pB (rightM m ∧ okP o) then (doM m o).1 else m0)) w' ∧ Up M w M'
end Go.Proofs.Ytjafbffehmombaa
set_option linter.unusedVariables false
set_option linter.unusedSimpArgs false
namespace Go.Proofs.Ytjafbffehmombaa
open Go Go.XL
def runM (m : Mo) : List OpT → Mo × List ResT
  | [] => (m, [])
  | o :: os => ((runM (doM m o).1 os).1, (doM m o).2 :: (runM (doM m o).1 os).2)
theorem runM_app (l r : List OpT) : ∀ m : Mo, runM m (l ++ r) = ((runM (runM m l).1 r).1, (runM m l).2 ++ (runM (runM m l).1 r).2) := by
  induction l with
  | nil => intro m; rfl
  | cons o l ih => intro m; simp only [List.cons_append, runM, ih]
theorem runM_step {m : Mo} {ops : List OpT} {i : Nat} {o : OpT} (h : ops[i]? = some o) : runM m (ops.take (i + 1)) = ((doM (runM m (ops.take i)).1 o).1, (runM m (ops.take i)).2 ++ [(doM (runM m (ops.take i)).1 o).2]) := by
  rw [List.take_add_one, h, runM_app]; rfl
theorem runM_len (m : Mo) (ops : List OpT) : (runM m ops).2.length = ops.length := by
  induction ops generalizing m with
  | nil => rfl
  | cons o l ih => simp only [runM, List.length_cons, ih]
def runOk (m : Mo) (ops : List OpT) : Prop := rightM m ∧ ∀ o ∈ ops, okP o
theorem rightM_run {ops : List OpT} : ∀ {m : Mo}, runOk m ops → rightM (runM m ops).1 := by
  induction ops with
  | nil => exact fun h => h.1
  | cons o l ih => exact fun h => ih ⟨rightM_do h.1 (h.2 o (by simp)), fun x hx => h.2 x (by simp [hx])⟩
theorem runOk.take {m : Mo} {ops : List OpT} (h : runOk m ops) (i : Nat) : runOk m (ops.take i) := ⟨h.1, fun x hx => h.2 x (List.mem_of_mem_take hx)⟩
theorem c_run1 (o : OpT) (w : World) : FC Try.prog 24 [.agg o.cells.toArray] w (Val (.bool (!decide (okP o))) w) := by
  refine FC.intro Try.func24 rfl Try.ntmps24 rfl ?_
  have S := Sub.refl w
  refine RC.seq ?_
  refine RC.region rfl ?_
  refine RL.box rfl rfl rfl (fun b_1 w_1 e_1 z_1 hb_1 s_1 => ?_)
  have ge_1 := S.le e_1
  have S := S.trans s_1
  have hb_1 : Has w_1 b_1 ([.int .i64 o.box, .int .i64 o.kind, .int .i64 o.a, .int .i64 o.b]) _ := hb_1
  refine RL.ev (.assign rfl) rfl rfl ?_
  refine RL.nil (RC.back ?_)
  refine RC.seq ?_
  refine RC.region rfl ?_
  refine RL.ev (.loadR ([.int .i64 o.box, .int .i64 o.kind, .int .i64 o.a, .int .i64 o.b]) sh34 rfl hb_1.row rfl) rfl rfl ?_
  refine RL.call rfl ok25 (c_opRight o w_1) rfl rfl ?_
  rintro _ w1 ⟨rfl, s2⟩
  have S := S.trans s2
  have hb_1 := hb_1.sub s2
  refine RL.ev (.not rfl) rfl rfl ?_
  refine RL.ev (.assign rfl) rfl rfl ?_
  refine RL.nil (RC.back ?_)
  refine RC.done (rs := [.tmp 2]) (vs := [_]) rfl rfl ⟨rfl, trivial⟩ ?_
  -- end 1
  exact ⟨rfl, S⟩
structure RunI (b2 b4 : Nat) (w W : World) (M : Nat → Prop) (cur : Mo × List ResT) (p' : Ph) (M' : Nat → Prop) (a7 : Option Addr) (c7 : Nat) : Prop where
  hb : Has W b2 [.slice p'.a1 cur.1.map.length p'.c1, .slice p'.a2 cur.1.tab.length p'.c2, .slice p'.a3 cur.1.row.length p'.c3, .slice p'.a4 cur.1.heap.length p'.c4] 25
  hb4 : Has W b4 [.slice none 0 0, .slice none 0 0, .slice none 0 0, .slice none 0 0] 25
  hF : Ft M' (fun u => MoR u p' cur.1) W
  hs : MoS p' cur.1
  o7 : Ows w.heap.size W 39 3 (.slice a7 (cur.2.map ResT.cells).length c7) (cur.2.map ResT.cells)
  d1 : ∀ k, M' k → k ≠ b2
  d2 : ∀ k, M' k → k ≠ b4
  d3 : ∀ k, ob (.slice a7 (cur.2.map ResT.cells).length c7) = some k → k ≠ b2
  d4 : ∀ k, ob (.slice a7 (cur.2.map ResT.cells).length c7) = some k → k ≠ b4
  d5 : ∀ k, ob (.slice a7 (cur.2.map ResT.cells).length c7) = some k → M' k → False
  up : Up M w M'
  S : Sub w W
/-- an answer of Run -/
def AnsRun (M : Nat → Prop) (w w' : World) (m : Mo) (ops : List OpT) (u : Value) : Prop :=
  Sub w w' ∧ ((runOk m ops ∧ ∃ p' M' a' c', u = .tuple #[moV p' (runM m ops).1, .slice a' ((runM m ops).2.map ResT.cells).length c', .int .i64 0] ∧ MoS p' (runM m ops).1 ∧ Ft M' (fun u => MoR u p' (runM m ops).1) w' ∧ Up M w M' ∧ Ows w.heap.size w' 39 3 (.slice a' ((runM m ops).2.map ResT.cells).length c') ((runM m ops).2.map ResT.cells) ∧ (∀ k, ob (.slice a' ((runM m ops).2.map ResT.cells).length c') = some k → M' k → False)) ∨ (¬ runOk m ops ∧ u = .tuple #[moV p0 m0, .slice none 0 0, .int .i64 1]))
set_option maxHeartbeats 1000000 in
theorem c_Run (p : Ph) (m : Mo) (hs : MoS p m) (ops : List OpT) (pa : Option Addr) (pc n : Nat) (hn : n = ops.length) (hl60 : ops.length ≤ 4000) (w : World) (M : Nat → Prop) (hF : Ft M (fun u => MoR u p m) w) (ho : Sl w pa 4 (ops.map OpT.cells)) :
    FC Try.prog 13 [moV p m, .slice pa n pc] w (fun u w' => AnsRun M w w' m ops u) := by
  subst hn
  have hF0 := hF
  refine FC.intro Try.func13 rfl Try.ntmps13 rfl ?_
  have S := Sub.refl w
  refine RC.seq ?_
  refine RC.region rfl ?_
  refine RL.box rfl rfl rfl (fun b_2 w_2 e_2 z_2 hb_2 s_2 => ?_)
  have ge_2 := S.le e_2
  have d_hF_b_2 := hF.neNew e_2
  have S := S.trans s_2
  have hF := hF.sub s_2
  have hb_2 : Has w_2 b_2 ([.slice p.a1 m.map.length p.c1, .slice p.a2 m.tab.length p.c2, .slice p.a3 m.row.length p.c3, .slice p.a4 m.heap.length p.c4]) _ := hb_2
  refine RL.alloc ze25 rfl rfl (fun b_4 w_4 e_4 z_4 hb_4 s_4 => ?_)
  have ge_4 := S.le e_4
  have n_2__4 := hb_2.ne e_4
  have d_hF_b_4 := hF.neNew e_4
  have S := S.trans s_4
  have hF := hF.sub s_4
  have hb_2 := hb_2.sub s_4
  refine RL.ev (.assign rfl) rfl rfl ?_
  refine RL.ev (.assign rfl) rfl rfl ?_
  refine RL.nil (RC.back ?_)
  refine RC.seq ?_
  refine RC.seq ?_
  refine RC.region rfl ?_
  refine RL.ev (.loadR ([.slice p.a1 m.map.length p.c1, .slice p.a2 m.tab.length p.c2, .slice p.a3 m.row.length p.c3, .slice p.a4 m.heap.length p.c4]) sh25 rfl hb_2.row rfl) rfl rfl ?_
  refine RL.call rfl ok19 (c_right p m hs w_4 hF.now) rfl rfl ?_
  rintro _ w1 ⟨rfl, s2⟩
  have S := S.trans s2
  have hF := hF.sub s2
  have hb_2 := hb_2.sub s2
  have hb_4 := hb_4.sub s2
  refine RL.ev (.not rfl) rfl rfl ?_
  refine RL.ev (.move rfl) rfl rfl ?_
  refine RL.splitB 15 rfl (fun h3 => ?_) (fun h3 => ?_)
  ·
    have g15 : ¬ rightM m := (fun e => by rw [pB_yes e] at h3; cases h3)
    refine RL.off rfl rfl ?_
    refine RL.off rfl rfl ?_
    refine RL.off rfl rfl ?_
    refine RL.ev (.pick_t rfl rfl) rfl rfl ?_
    refine RL.ev (.move rfl) rfl rfl ?_
    refine RL.off rfl rfl ?_
    refine RL.off rfl rfl ?_
    refine RL.ev (.pick_t rfl rfl) rfl rfl ?_
    refine RL.nil (RC.back ?_)
    refine RC.cond_t rfl ?_
    refine RC.seq ?_
    refine RC.region rfl ?_
    refine RL.ev (.as (v' := .agg #[.slice none 0 0, .slice none 0 0, .slice none 0 0, .slice none 0 0]) (.buildS ze25 pl25 rfl rfl) (by kernel_rfl)) rfl rfl ?_
    refine RL.store sh25 rfl rfl rfl hb_4 (by exact Nat.le_of_ble_eq_true rfl) (by rfl) rfl (fun w4 z4 hb_4 a4 => ?_)
    have S := S.upd a4 ge_4
    have hF := hF.updD a4 d_hF_b_4
    have hb_2 := hb_2.upd a4 n_2__4
    have hb_4 : Has w4 b_4 ([.slice none 0 0, .slice none 0 0, .slice none 0 0, .slice none 0 0]) _ := hb_4.now (by kernel_rfl)
    refine RL.ev (.assign rfl) rfl rfl ?_
    refine RL.ev (.assign rfl) rfl rfl ?_
    refine RL.nil (RC.back ?_)
    refine RC.done (rs := [.cell 4 25, .tmp 5, .tmp 6]) (vs := [_, _, _]) rfl rfl ⟨⟨_, rfl, .inr ⟨[.slice none 0 0, .slice none 0 0, .slice none 0 0, .slice none 0 0], sh25, hb_4.row, rfl⟩⟩, rfl, rfl, trivial⟩ ?_
    -- end 1
    exact ⟨S, .inr ⟨fun e => g15 e.1, rfl⟩⟩
  ·
    have g15 : rightM m := (by have q := h3; rw [Bool.not_eq_false'] at q; exact pB_iff.1 q)
    refine RL.ev (.move rfl) rfl rfl ?_
    refine RL.ev (.len sl26 rfl) rfl rfl ?_
    refine RL.ev (.as (v' := .bool false) (.bin rfl rfl rfl) (congrArg Value.bool (decide_eq_false (by omega)))) rfl rfl ?_
    refine RL.ev (.pick_f rfl rfl) rfl rfl ?_
    refine RL.ev (.move rfl) rfl rfl ?_
    refine RL.ev (.move rfl) rfl rfl ?_
    refine RL.call rfl ok23 (c_containsOp 24 ok24 [] (fun o => !decide (okP o)) ops pa pc _ rfl w1 (fun x _ w' _ => c_run1 x w') (ho.sub S) (by omega)) rfl rfl ?_
    rintro _ w5 ⟨rfl, s6⟩
    have S := S.trans s6
    have hF := hF.sub s6
    have hb_2 := hb_2.sub s6
    have hb_4 := hb_4.sub s6
    refine RL.ev (.pick_f rfl rfl) rfl rfl ?_
    refine RL.nil (RC.back ?_)
    refine RC.cond rfl (fun h7 => ?_) (fun h7 => ?_)
    ·
      have g23 : ¬ ∀ o ∈ ops, okP o := (fun e => by have q := h7; rw [List.any_eq_true] at q; obtain ⟨x, hx, hq⟩ := q; simp [e x hx] at hq)
      refine RC.seq ?_
      refine RC.region rfl ?_
      refine RL.ev (.as (v' := .agg #[.slice none 0 0, .slice none 0 0, .slice none 0 0, .slice none 0 0]) (.buildS ze25 pl25 rfl rfl) (by kernel_rfl)) rfl rfl ?_
      refine RL.store sh25 rfl rfl rfl hb_4 (by exact Nat.le_of_ble_eq_true rfl) (by rfl) rfl (fun w8 z8 hb_4 a8 => ?_)
      have S := S.upd a8 ge_4
      have hF := hF.updD a8 d_hF_b_4
      have hb_2 := hb_2.upd a8 n_2__4
      have hb_4 : Has w8 b_4 ([.slice none 0 0, .slice none 0 0, .slice none 0 0, .slice none 0 0]) _ := hb_4.now (by kernel_rfl)
      refine RL.ev (.assign rfl) rfl rfl ?_
      refine RL.ev (.assign rfl) rfl rfl ?_
      refine RL.nil (RC.back ?_)
      refine RC.done (rs := [.cell 4 25, .tmp 5, .tmp 6]) (vs := [_, _, _]) rfl rfl ⟨⟨_, rfl, .inr ⟨[.slice none 0 0, .slice none 0 0, .slice none 0 0, .slice none 0 0], sh25, hb_4.row, rfl⟩⟩, rfl, rfl, trivial⟩ ?_
      -- end 2
      exact ⟨S, .inr ⟨fun e => g23 e.2, rfl⟩⟩
    ·
      have g23 : ∀ o ∈ ops, okP o := (fun x hx => by have q := h7; rw [List.any_eq_false] at q; have := q x hx; simpa using this)
      have hok : runOk m ops := ⟨g15, g23⟩
      refine RC.skip (RC.back ?_)
      refine RC.seq ?_
      refine RC.region rfl ?_
      refine RL.ev (.assign rfl) rfl rfl ?_
      refine RL.nil (RC.back ?_)
      refine RC.seq ?_
      refine RC.seq ?_
      refine RC.region rfl ?_
      refine RL.ev (.move rfl) rfl rfl ?_
      refine RL.ev (.len sl26 rfl) rfl rfl ?_
      refine RL.ev (.move rfl) rfl rfl ?_
      refine RL.nil (RC.back ?_)
      refine RC.block ?_
      refine RC.loop (α := Nat × (Mo × List ResT) × Ph × (Nat → Prop) × Option Addr × Nat) (fun x => [(2, .pointer (some ⟨b_2, 0, none⟩)), (4, .pointer (some ⟨b_4, 0, none⟩)), (7, .slice x.2.2.2.2.1 (x.2.1.2.map ResT.cells).length x.2.2.2.2.2), (25, .slice pa ops.length pc), (26, .int .i64 (ops.length : Int)), (27, .int .i64 (x.1 : Int))]) (fun x w9 => (x.1 ≤ ops.length ∧ x.2.1 = runM m (ops.take x.1)) ∧ RunI b_2 b_4 w w9 M x.2.1 x.2.2.1 x.2.2.2.1 x.2.2.2.2.1 x.2.2.2.2.2) (fun x => ops.length - x.1) (0, (m, []), p, M, none, 0) (keep_of (by repeat (first | exact trivial | refine And.intro rfl ?_))) (⟨⟨Nat.zero_le _, rfl⟩, ⟨hb_2, hb_4, hF, hs, Ows.nil _ _ _ _, d_hF_b_2, d_hF_b_4, fun k hk => obNil hk, fun k hk => obNil hk, fun k hk => obNil hk, Up.refl _ _, S⟩⟩) (fun x w9 hJ => ?_)
      obtain ⟨i, cur, p', M', a7, c7⟩ := x; obtain ⟨⟨hi, hcur⟩, ⟨hb_2, hb_4, hF, hs', o7, d1, d2, d3, d4, d5, hup, S⟩⟩ := hJ; simp only [] at hi hcur hb_2 hb_4 hF hs' o7 d1 d2 d3 d4 d5 hup; have szB := S.size; have hrl : cur.2.length = i := (by rw [hcur, runM_len, List.length_take]; omega)
      refine RC.seq ?_
      refine RC.region rfl ?_
      refine RL.ev (.bin rfl rfl rfl) rfl rfl ?_
      refine RL.nil (RC.back ?_)
      refine RC.seq ?_
      refine RC.cond_dec rfl (fun h10 => ?_) (fun h10 => ?_)
      ·
        obtain ⟨o, hx⟩ := getSome (l := ops) (i := i) (by omega)
        have hxm := List.mem_of_getElem? hx
        have hst := runM_step (m := m) hx
        rw [← hcur] at hst
        have hRc : rightM cur.1 := (hcur ▸ rightM_run (hok.take i))
        refine RC.skip (RC.back ?_)
        refine RC.seq ?_
        refine RC.block ?_
        refine RC.seq ?_
        refine RC.region rfl ?_
        refine RL.ev (.indexS sl26 rfl rfl (by omega) (ho.is (i := 0) (by simp only [List.length_map, List.length_cons, List.length_nil]; omega))) rfl rfl ?_
        refine RL.ev (.loadR (o.cells) sh34 rfl ((ho.sub S).rowAt (enc := OpT.cells) (i := i) hx) rfl) rfl rfl ?_
        refine RL.alloc ze34 rfl rfl (fun b_9 w_9 e_9 z_9 hb_9 s_9 => ?_)
        have ge_9 := S.le e_9
        have n_2__9 := hb_2.ne e_9
        have n_4__9 := hb_4.ne e_9
        have d_hF_b_9 := hF.neNew e_9
        have d_o7_b_9 := o7.neNew e_9
        have S := S.trans s_9
        have hb_2 := hb_2.sub s_9
        have hb_4 := hb_4.sub s_9
        have hF := hF.sub s_9
        have o7 := o7.sub s_9
        have szB := Nat.le_trans szB s_9.size
        refine RL.store sh34 rfl rfl rfl hb_9 (by exact Nat.le_of_ble_eq_true rfl) (by rfl) rfl (fun w11 z11 hb_9 a11 => ?_)
        have S := S.upd a11 ge_9
        have hb_2 := hb_2.upd a11 n_2__9
        have hb_4 := hb_4.upd a11 n_4__9
        have hF := hF.updD a11 d_hF_b_9
        have o7 := o7.updD a11 d_o7_b_9
        have szB := Nat.le_trans szB a11.size
        have hb_9 : Has w11 b_9 (o.cells) _ := hb_9.now (by kernel_rfl)
        refine RL.nil (RC.back ?_)
        refine RC.seq ?_
        refine RC.region rfl ?_
        refine RL.ev (.loadR ([.slice p'.a1 cur.1.map.length p'.c1, .slice p'.a2 cur.1.tab.length p'.c2, .slice p'.a3 cur.1.row.length p'.c3, .slice p'.a4 cur.1.heap.length p'.c4]) sh25 rfl hb_2.row rfl) rfl rfl ?_
        refine RL.ev (.loadR (o.cells) sh34 rfl hb_9.row rfl) rfl rfl ?_
        refine RL.call rfl ok26 (c_do p' cur.1 hs' hRc o (g23 o hxm) w11 M' hF) rfl rfl ?_
        rintro _ w12 ⟨s13, p2, M2, rfl, hs2, hF2, hup2⟩
        have d_hF2_b_2 := upNe hup2 d1 hb_2.lt
        have d_hF2_b_4 := upNe hup2 d2 hb_4.lt
        have dd_o7_hF2 := upDD hup2 d5 (fun k hk => (o7.ge k hk).2)
        have d_hF2_b_9 := upNe hup2 d_hF_b_9 hb_9.lt
        have d_o7_hF2 := upDD hup2 d5 (fun k hk => (o7.ge k hk).2)
        have hup2 := hup.trans (hup2.le S.size)
        have S := S.trans s13
        have hb_2 := hb_2.sub s13
        have hb_4 := hb_4.sub s13
        have hF := hF.sub s13
        have o7 := o7.sub s13
        have szB := Nat.le_trans szB s13.size
        have hb_9 := hb_9.sub s13
        refine RL.ev (.move rfl) rfl rfl ?_
        refine RL.ev (.extract rfl rfl) rfl rfl ?_
        refine RL.ev (.extract rfl rfl) rfl rfl ?_
        refine RL.alloc ze25 rfl rfl (fun b_10 w_10 e_10 z_10 hb_10 s_10 => ?_)
        have ge_10 := S.le e_10
        have n_2__10 := hb_2.ne e_10
        have n_4__10 := hb_4.ne e_10
        have n_9__10 := hb_9.ne e_10
        have d_o7_b_10 := o7.neNew e_10
        have d_hF2_b_10 := hF2.neNew e_10
        have S := S.trans s_10
        have hb_2 := hb_2.sub s_10
        have hb_4 := hb_4.sub s_10
        have o7 := o7.sub s_10
        have szB := Nat.le_trans szB s_10.size
        have hb_9 := hb_9.sub s_10
        have hF2 := hF2.sub s_10
        refine RL.alloc ze39 rfl rfl (fun b_11 w_11 e_11 z_11 hb_11 s_11 => ?_)
        have ge_11 := S.le e_11
        have n_2__11 := hb_2.ne e_11
        have n_4__11 := hb_4.ne e_11
        have n_9__11 := hb_9.ne e_11
        have n_10__11 := hb_10.ne e_11
        have d_o7_b_11 := o7.neNew e_11
        have d_hF2_b_11 := hF2.neNew e_11
        have S := S.trans s_11
        have hb_2 := hb_2.sub s_11
        have hb_4 := hb_4.sub s_11
        have o7 := o7.sub s_11
        have szB := Nat.le_trans szB s_11.size
        have hb_9 := hb_9.sub s_11
        have hF2 := hF2.sub s_11
        have hb_10 := hb_10.sub s_11
        refine RL.store sh25 rfl rfl rfl hb_10 (by exact Nat.le_of_ble_eq_true rfl) (by rfl) rfl (fun w14 z14 hb_10 a14 => ?_)
        have S := S.upd a14 ge_10
        have hb_2 := hb_2.upd a14 n_2__10
        have hb_4 := hb_4.upd a14 n_4__10
        have o7 := o7.updD a14 d_o7_b_10
        have szB := Nat.le_trans szB a14.size
        have hb_9 := hb_9.upd a14 n_9__10
        have hF2 := hF2.updD a14 d_hF2_b_10
        have hb_11 := hb_11.upd a14 n_10__11.symm
        have hb_10 : Has w14 b_10 ([.slice p2.a1 (doM cur.1 o).1.map.length p2.c1, .slice p2.a2 (doM cur.1 o).1.tab.length p2.c2, .slice p2.a3 (doM cur.1 o).1.row.length p2.c3, .slice p2.a4 (doM cur.1 o).1.heap.length p2.c4]) _ := hb_10.now (by kernel_rfl)
        refine RL.store sh39 rfl rfl rfl hb_11 (by exact Nat.le_of_ble_eq_true rfl) (by rfl) rfl (fun w15 z15 hb_11 a15 => ?_)
        have S := S.upd a15 ge_11
        have hb_2 := hb_2.upd a15 n_2__11
        have hb_4 := hb_4.upd a15 n_4__11
        have o7 := o7.updD a15 d_o7_b_11
        have szB := Nat.le_trans szB a15.size
        have hb_9 := hb_9.upd a15 n_9__11
        have hF2 := hF2.updD a15 d_hF2_b_11
        have hb_10 := hb_10.upd a15 n_10__11
        have hb_11 : Has w15 b_11 ((doM cur.1 o).2.cells) _ := hb_11.now (by kernel_rfl)
        refine RL.nil (RC.back ?_)
        refine RC.drawD (fun k => k = b_2 ∨ ob (.slice a7 (cur.2.map ResT.cells).length c7) = some k) [5, 4] w15.heap.size 7 rfl rfl mxo (fun w16 s17 => ?_)
        have hNN : ∀ k, ((k = b_2 ∨ ob (.slice a7 (cur.2.map ResT.cells).length c7) = some k) ∨ w15.heap.size ≤ k) → w.heap.size ≤ k := fun k e => e.elim (fun e => e.elim (fun e => e ▸ ge_2) (fun e => Nat.le_trans (by omega) (o7.ge k e).1)) (fun e => Nat.le_trans S.size e)
        have ent_S := S.size
        have hN0 : ∀ k, w15.heap.size ≤ k → w.heap.size ≤ k := fun k e => Nat.le_trans S.size e
        have ltD_b_2 := hb_2.lt
        have ltD_b_4 := hb_4.lt
        have ltD_o7 := fun k hk => (o7.ge k hk).2
        have ltD_b_9 := hb_9.lt
        have ltD_hF2 := fun k hk => (hF2.ge k hk).2
        have ltD_b_10 := hb_10.lt
        have ltD_b_11 := hb_11.lt
        have szD := Nat.le_refl w15.heap.size
        have S := S.trans s17
        have hb_2 := hb_2.sub s17
        have hb_4 := hb_4.sub s17
        have o7 := o7.sub s17
        have szB := Nat.le_trans szB s17.size
        have hb_9 := hb_9.sub s17
        have hF2 := hF2.sub s17
        have hb_10 := hb_10.sub s17
        have hb_11 := hb_11.sub s17
        have szD := Nat.le_trans szD s17.size
        refine RD.take 0 rfl (by kernel_rfl) (by kernel_rfl) (by kernel_rfl) (fun w' s' => .loadR ([.slice p2.a1 (doM cur.1 o).1.map.length p2.c1, .slice p2.a2 (doM cur.1 o).1.tab.length p2.c2, .slice p2.a3 (doM cur.1 o).1.row.length p2.c3, .slice p2.a4 (doM cur.1 o).1.heap.length p2.c4]) sh25 rfl (hb_10.step s' (fun e => e.elim (fun e => e.elim (fun e => n_2__10.symm e) (fun e => d_o7_b_10 _ e rfl)) (fun e => Nat.not_le.2 ltD_b_10 e))).row rfl) rfl rfl ?_
        refine RD.take 1 rfl (by kernel_rfl) (by kernel_rfl) (by kernel_rfl) (fun w' s' => .move rfl) rfl rfl ?_
        refine RD.take 2 rfl (by kernel_rfl) (by kernel_rfl) (by kernel_rfl) (fun w' s' => .loadR ((doM cur.1 o).2.cells) sh39 rfl (hb_11.step s' (fun e => e.elim (fun e => e.elim (fun e => n_2__11.symm e) (fun e => d_o7_b_11 _ e rfl)) (fun e => Nat.not_le.2 ltD_b_11 e))).row rfl) rfl rfl ?_
        refine RD.all [3] (by kernel_rfl) rfl (RDs.cons rfl ?_ (RDs.nil))
        refine RL.buildSlice1 sl28 _ ze39 rfl rfl rfl rfl rfl rfl rfl (fun b_40 w_40 e_40 z_40 hb_40 s_40 => ?_)
        have fr_b_40 : w15.heap.size ≤ b_40 := by rw [e_40]; exact szD
        have ge_40 := S.le e_40
        have n_2__40 := hb_2.ne e_40
        have n_4__40 := hb_4.ne e_40
        have n_9__40 := hb_9.ne e_40
        have n_10__40 := hb_10.ne e_40
        have n_11__40 := hb_11.ne e_40
        have d_o7_b_40 := o7.neNew e_40
        have d_hF2_b_40 := hF2.neNew e_40
        have S := S.trans s_40
        have hb_2 := hb_2.sub s_40
        have hb_4 := hb_4.sub s_40
        have o7 := o7.sub s_40
        have szB := Nat.le_trans szB s_40.size
        have hb_9 := hb_9.sub s_40
        have hF2 := hF2.sub s_40
        have hb_10 := hb_10.sub s_40
        have hb_11 := hb_11.sub s_40
        have szD := Nat.le_trans szD s_40.size
        refine RD.back s_40.agr ?_
        refine RD.all [4] (by kernel_rfl) rfl (RDs.cons rfl ?_ (RDs.nil))
        have sz_41 := S.size
        have ltb_2_41 := hb_2.lt
        have ltb_4_41 := hb_4.lt
        have ltb_9_41 := hb_9.lt
        have ltb_10_41 := hb_10.lt
        have ltb_11_41 := hb_11.lt
        have ltb_40_41 := hb_40.lt
        refine RL.append2 (base := w.heap.size) (rows := cur.2.map ResT.cells) (news := [_]) sl28 ze39 rfl rfl rfl rfl (.inl o7) (Has.slOne hb_40) rfl (by intro r hr; rw [List.mem_singleton] at hr; subst hr; rfl) rfl (by (try simp only [List.length_map, List.length_nil, List.length_append, List.length_cons]); omega) (by (try simp only [List.length_map, List.length_nil, List.length_append, List.length_cons]); omega) (by omega) rfl rfl (fun v_41 w_41 hc_41 ho_41 ag_41 ob_41 => ?_)
        have o41 := ho_41 (.inl (by simp))
        rw [show _ ++ [_] = ((cur.2 ++ [(doM cur.1 o).2]).map ResT.cells) from by rw [List.map_append]; rfl] at o41
        have d_o41_b_2 := obNe ob_41 d3 hb_2.lt
        have d_o41_b_4 := obNe ob_41 d4 hb_4.lt
        have d_o41_b_9 := obNe ob_41 d_o7_b_9 hb_9.lt
        have dd_o41_hF2 := obDF ob_41 d_o7_hF2 (fun k hk => (hF2.ge k hk).2)
        have d_o41_b_10 := obNe ob_41 d_o7_b_10 hb_10.lt
        have d_o41_b_11 := obNe ob_41 d_o7_b_11 hb_11.lt
        have S := S.agrN ag_41 (fun k e => Nat.le_trans (by omega) e.2)
        have hb_2 := hb_2.step ag_41 (fun e => d3 _ e.1 rfl)
        have hb_4 := hb_4.step ag_41 (fun e => d4 _ e.1 rfl)
        have szB := Nat.le_trans szB ag_41.size
        have hb_9 := hb_9.step ag_41 (fun e => d_o7_b_9 _ e.1 rfl)
        have hF2 := hF2.step ag_41 (fun k hk e => d_o7_hF2 k e.1 hk)
        have hb_10 := hb_10.step ag_41 (fun e => d_o7_b_10 _ e.1 rfl)
        have hb_11 := hb_11.step ag_41 (fun e => d_o7_b_11 _ e.1 rfl)
        have szD := Nat.le_trans szD ag_41.size
        obtain ⟨a_41, c_41, rfl, k_41⟩ := o41.form
        refine RD.backW rfl (ag_41.mono fun k _ e => .inl (.inr (e.1))) ?_
        refine RD.all [5] (by kernel_rfl) rfl (RDs.cons rfl ?_ (RDs.nil))
        refine RL.store sh25 rfl rfl rfl hb_2 (by exact Nat.le_of_ble_eq_true rfl) (by rfl) rfl (fun w18 z18 hb_2 a18 => ?_)
        have S := S.upd a18 ge_2
        have hb_4 := hb_4.upd a18 n_2__4.symm
        have szB := Nat.le_trans szB a18.size
        have hb_9 := hb_9.upd a18 n_2__9.symm
        have hF2 := hF2.updD a18 d_hF2_b_2
        have hb_10 := hb_10.upd a18 n_2__10.symm
        have hb_11 := hb_11.upd a18 n_2__11.symm
        have szD := Nat.le_trans szD a18.size
        have o41 := o41.updD a18 d_o41_b_2
        have hb_2 : Has w18 b_2 ([.slice p2.a1 (doM cur.1 o).1.map.length p2.c1, .slice p2.a2 (doM cur.1 o).1.tab.length p2.c2, .slice p2.a3 (doM cur.1 o).1.row.length p2.c3, .slice p2.a4 (doM cur.1 o).1.heap.length p2.c4]) _ := hb_2.now (by kernel_rfl)
        refine RD.backW rfl (a18.mono fun k _ e => e ▸ (.inl (.inl rfl))) ?_
        refine RD.take 6 rfl (by kernel_rfl) (by kernel_rfl) (by kernel_rfl) (fun w' s' => .assign rfl) rfl rfl ?_
        refine RD.done (by kernel_rfl) (RC.back ?_)
        refine RC.region rfl ?_
        refine RL.ev (.as (.bin rfl rfl rfl) (wi64 (y := ((i + 1 : Nat) : Int)) (by omega) (by omega))) rfl rfl ?_
        refine RL.ev (.move rfl) rfl rfl ?_
        exact RL.nil (fun a ka => ⟨(i + 1, ((doM cur.1 o).1, cur.2 ++ [(doM cur.1 o).2]), p2, M2, a_41, c_41), ⟨⟨by omega, by rw [hst]⟩, ⟨hb_2, hb_4, hF2, hs2, o41, d_hF2_b_2, d_hF2_b_4, d_o41_b_2, d_o41_b_4, dd_o41_hF2, hup2, S⟩⟩, by omega, ka.keep (keep_of (by repeat (first | exact trivial | refine And.intro rfl ?_)))⟩)
      ·
        obtain rfl : i = ops.length := (by omega)
        rw [List.take_length] at hcur
        refine RC.exit rfl (RC.back ?_)
        refine RC.seq ?_
        refine RC.region rfl ?_
        refine RL.ev (.loadR ([.slice p'.a1 cur.1.map.length p'.c1, .slice p'.a2 cur.1.tab.length p'.c2, .slice p'.a3 cur.1.row.length p'.c3, .slice p'.a4 cur.1.heap.length p'.c4]) sh25 rfl hb_2.row rfl) rfl rfl ?_
        refine RL.ev (.move rfl) rfl rfl ?_
        refine RL.store sh25 rfl rfl rfl hb_4 (by exact Nat.le_of_ble_eq_true rfl) (by rfl) rfl (fun w19 z19 hb_4 a19 => ?_)
        have S := S.upd a19 ge_4
        have hb_2 := hb_2.upd a19 n_2__4
        have hF := hF.updD a19 d2
        have o7 := o7.updD a19 d4
        have szB := Nat.le_trans szB a19.size
        have hb_4 : Has w19 b_4 ([.slice p'.a1 cur.1.map.length p'.c1, .slice p'.a2 cur.1.tab.length p'.c2, .slice p'.a3 cur.1.row.length p'.c3, .slice p'.a4 cur.1.heap.length p'.c4]) _ := hb_4.now (by kernel_rfl)
        refine RL.ev (.assign rfl) rfl rfl ?_
        refine RL.ev (.assign rfl) rfl rfl ?_
        refine RL.nil (RC.back ?_)
        refine RC.done (rs := [.cell 4 25, .tmp 5, .tmp 6]) (vs := [_, _, _]) rfl rfl ⟨⟨_, rfl, .inr ⟨[.slice p'.a1 cur.1.map.length p'.c1, .slice p'.a2 cur.1.tab.length p'.c2, .slice p'.a3 cur.1.row.length p'.c3, .slice p'.a4 cur.1.heap.length p'.c4], sh25, hb_4.row, rfl⟩⟩, rfl, rfl, trivial⟩ ?_
        -- end 3
        exact ⟨S, .inl ⟨hok, p', M', a7, c7, by rw [← hcur]; rfl, by rw [← hcur]; exact hs', by rw [← hcur]; exact hF, hup, by rw [← hcur]; exact o7, by rw [← hcur]; exact d5⟩⟩
end Go.Proofs.Ytjafbffehmombaa
set_option linter.unusedVariables false
set_option linter.unusedSimpArgs false
namespace Go.Proofs.Ytjafbffehmombaa
open Go Go.XL
theorem fit_it (r : List Value) (h : fitsR [some .i64, some .i64] r) : ∃ x : It, r = x.cells ∧ x.ok := by
  obtain ⟨_, _, rfl, h0, h⟩ := fitsR_cons h
  obtain ⟨_, _, rfl, h1, h⟩ := fitsR_cons h
  obtain rfl := fitsR_nil h
  obtain ⟨a, rfl, g⟩ := fitI h0
  obtain ⟨b, rfl, k⟩ := fitI h1
  exact ⟨⟨a, b⟩, rfl, g, k⟩
section
variable {H : Type} {enc : TypeId × Value → H} {W : World} {base : Nat} {sp : Nat → Bool} {held : Bool} {v : Value} {d : DataW H} {ps : List MemPlace} {r : Reach} {b : Nat}
set_option maxRecDepth 100000 in
theorem open_its (hok : Value.okWide Try.prog W r b 22 v) (h : DataW.Trod enc Try.prog W base sp held 22 v d ps) : ∃ (a : Option Addr) (l : List It) (c : Nat), v = .slice a l.length c ∧ l.length ≤ c ∧ c ≤ maxLen ∧ Sl W a 2 (l.map It.cells) ∧ ∀ x ∈ l, x.ok :=
  open_sl It.cells It.ok sl22 fk45 rfl fit_it hok h
end
def alOps : List OpT := [⟨1, 2, 5, 7⟩, ⟨1, 2, 5, 8⟩]
theorem m0_right : rightM m0 := by
  rw [rightM_iff]
  refine ⟨fun i x y h => by simp [m0] at h, fun x h => by simp [m0] at h, ⟨fun x h => by simp [m0] at h, by decide⟩, ⟨fun x h => by simp [m0] at h, by decide⟩, ⟨fun x h => by simp [m0] at h, by decide⟩, by decide, List.Pairwise.nil, List.Pairwise.nil⟩
theorem c_alive14 (w : World) : FC Try.prog 16 [] w (Val (.bool true) w) := by
  have hok : runOk m0 alOps := ⟨m0_right, by decide⟩
  have h0 := m0_F (fun _ => False) (w := w) (fun k h => h.elim)
  refine FC.intro Try.func16 rfl Try.ntmps16 rfl ?_
  have S := Sub.refl w
  refine RC.seq ?_
  refine RC.region rfl ?_
  refine RL.ev (.assign rfl) rfl rfl ?_
  refine RL.nil (RC.back ?_)
  refine RC.seq ?_
  refine RC.region rfl ?_
  refine RL.ev (.as (v' := moV p0 m0) (.buildS ze25 pl25 rfl rfl) (by rfl)) rfl rfl ?_
  refine RL.ev (.as (v' := .agg #[.int .i64 1, .int .i64 2, .int .i64 5, .int .i64 7]) (.buildS ze34 pl34 rfl rfl) (by rfl)) rfl rfl ?_
  refine RL.ev (.as (v' := .agg #[.int .i64 1, .int .i64 2, .int .i64 5, .int .i64 8]) (.buildS ze34 pl34 rfl rfl) (by rfl)) rfl rfl ?_
  refine RL.buildSliceN (vs := [_, _]) sl26 _ ze34 rfl ⟨rfl, rfl, trivial⟩ rfl rfl rfl rfl rfl rfl (fun b_8 w_8 e_8 z_8 hb_8 s_8 => ?_)
  have ge_8 := S.le e_8
  have d_h0_b_8 := h0.neNew e_8
  have S := S.trans s_8
  have h0 := h0.sub s_8
  refine RL.call rfl ok13 (c_Run p0 m0 m0_S alOps (some ⟨b_8, 0, none⟩) 2 2 rfl (by decide) w_8 _ h0 (Has.sl0 (rows := alOps.map OpT.cells) hb_8 (by intro r hr; obtain ⟨x, _, rfl⟩ := List.mem_map.1 hr; rfl))) rfl rfl ?_
  rintro _ w1 ⟨s2, hr9⟩
  obtain ⟨_, p', M', a', c', rfl, hs', hF', hup, ho9, _⟩ := hr9.resolve_right (fun e => e.1 hok)
  have S := S.trans s2
  have h0 := h0.sub s2
  have hb_8 := hb_8.sub s2
  have hsl := ho9.sl.1
  obtain ⟨W9, hW9⟩ : ∃ W, W = w1 := ⟨_, rfl⟩
  have S9 : Sub W9 w1 := hW9 ▸ Sub.refl _
  rw [← hW9] at hsl
  refine RL.ev (.move rfl) rfl rfl ?_
  refine RL.ev (.extract rfl rfl) rfl rfl ?_
  refine RL.ev (.extract rfl rfl) rfl rfl ?_
  refine RL.ev (.extract rfl rfl) rfl rfl ?_
  refine RL.alloc ze25 rfl rfl (fun b_1 w_1 e_1 z_1 hb_1 s_1 => ?_)
  have ge_1 := S.le e_1
  have n_8__1 := hb_8.ne e_1
  have d_h0_b_1 := h0.neNew e_1
  have S := S.trans s_1
  have h0 := h0.sub s_1
  have hb_8 := hb_8.sub s_1
  have geS9_1 := S9.le e_1
  have S9 := S9.trans s_1
  refine RL.store sh25 rfl rfl rfl hb_1 (by exact Nat.le_of_ble_eq_true rfl) (by rfl) rfl (fun w3 z3 hb_1 a3 => ?_)
  have S := S.upd a3 ge_1
  have h0 := h0.updD a3 d_h0_b_1
  have hb_8 := hb_8.upd a3 n_8__1
  have S9 := S9.upd a3 geS9_1
  refine RL.ev (.assign rfl) rfl rfl ?_
  refine RL.ev (.assign rfl) rfl rfl ?_
  refine RL.nil (RC.back ?_)
  refine RC.seq ?_
  refine RC.region rfl ?_
  refine RL.ev (.move rfl) rfl rfl ?_
  refine RL.ev (.as (v' := .bool true) (.bin rfl rfl rfl) (congrArg Value.bool (decide_eq_true (rfl)))) rfl rfl ?_
  refine RL.ev (.move rfl) rfl rfl ?_
  refine RL.ev (.move rfl) rfl rfl ?_
  refine RL.ev (.len sl28 rfl) rfl rfl ?_
  refine RL.ev (.as (v' := .bool true) (.bin rfl rfl rfl) (congrArg Value.bool (decide_eq_true (rfl)))) rfl rfl ?_
  refine RL.ev (.pick_t rfl rfl) rfl rfl ?_
  refine RL.ev (.move rfl) rfl rfl ?_
  refine RL.ev (.move rfl) rfl rfl ?_
  refine RL.ev (.indexS sl28 rfl rfl (by rw [List.length_map, runM_len]; decide) (hsl.is (i := 1) (by rw [List.length_map, runM_len]; decide))) rfl rfl ?_
  refine RL.ev (.loadR ((⟨0, 1, 7⟩ : ResT).cells) sh39 rfl ((hsl.sub S9).rowAt (enc := ResT.cells) (i := 1) (x := ⟨0, 1, 7⟩) rfl) rfl) rfl rfl ?_
  refine RL.ev (.as (v' := .agg (⟨0, 1, 7⟩ : ResT).cells.toArray) (.buildS ze39 pl39 rfl rfl) (by rfl)) rfl rfl ?_
  refine RL.ev (.as (v' := .bool true) (.eqS (xs := (⟨0, 1, 7⟩ : ResT).cells) (ys := (⟨0, 1, 7⟩ : ResT).cells) fk39 eg39 sh39 rfl rfl rfl rfl rfl) (congrArg Value.bool (by rfl))) rfl rfl ?_
  refine RL.ev (.pick_t rfl rfl) rfl rfl ?_
  refine RL.ev (.assign rfl) rfl rfl ?_
  refine RL.nil (RC.back ?_)
  refine RC.done (rs := [.tmp 0]) (vs := [_]) rfl rfl ⟨rfl, trivial⟩ ?_
  -- end 1
  exact ⟨rfl, S⟩
end Go.Proofs.Ytjafbffehmombaa
set_option linter.unusedVariables false
set_option linter.unusedSimpArgs false
namespace Go.Proofs.Ytjafbffehmombaa
open Go Go.XL
theorem AnsDo.out {M : Nat → Prop} {w w' : World} {m : Mo} {o : OpT} {u : Value} (h : AnsDo M w w' m o u) : Sub w w' ∧ ∃ p' r1 r2 e M', u = .tuple #[moV p' r1, .agg (r2 : ResT).cells.toArray, .int .i64 e] ∧ MoS p' r1 ∧ Ft M' (fun u => MoR u p' r1) w' ∧ Up M w M' ∧ ((rightM m ∧ okP o) → r1 = (doM m o).1 ∧ r2 = (doM m o).2 ∧ e = 0) ∧ (¬ (rightM m ∧ okP o) → r1 = m0 ∧ r2 = res0 ∧ e = 1) := by
  obtain ⟨s, p', M', h1, h2, h3, h4⟩ := h
  refine ⟨s, p', _, _, _, M', h1, h2, h3, h4, fun g => ?_, fun g => ?_⟩
  · rw [pB_yes g]; exact ⟨rfl, rfl, rfl⟩
  · rw [pB_no g]; exact ⟨rfl, rfl, rfl⟩
end Go.Proofs.Ytjafbffehmombaa
set_option linter.unusedVariables false
set_option linter.unusedSimpArgs false
namespace Go.Proofs.Ytjafbffehmombaa
open Go Go.XL
theorem AnsRun.out {M : Nat → Prop} {w w' : World} {m : Mo} {ops : List OpT} {u : Value} (h : AnsRun M w w' m ops u) (hM : ∀ k, M k → k < w.heap.size) : Sub w w' ∧ ∃ p' r1 rs e M' a' c' M2, u = .tuple #[moV p' r1, .slice a' (rs.map ResT.cells).length c', .int .i64 e] ∧ MoS p' r1 ∧ Ft M' (fun u => MoR u p' r1) w' ∧ Up M w M' ∧ Ft M2 (fun u => Sl u a' 3 (rs.map ResT.cells)) w' ∧ Up (fun _ => False) w M2 ∧ (runOk m ops → r1 = (runM m ops).1 ∧ rs = (runM m ops).2 ∧ e = 0) ∧ (¬ runOk m ops → r1 = m0 ∧ rs = [] ∧ e = 1) := by
  obtain ⟨s, ⟨hk, p', M', a', c', h1, h2, h3, h4, h5, h6⟩ | ⟨hk, h1⟩⟩ := h
  · exact ⟨s, p', _, _, _, M', a', c', _, h1, h2, h3, h4, h5.ft.imp (fun u h => h.sl.1), fun k hk => .inr (h5.ge k hk).1, fun _ => ⟨rfl, rfl, rfl⟩, fun g => absurd hk g⟩
  · exact ⟨s, p0, m0, [], 1, M, none, 0, fun _ => False, h1, m0_S, m0_F M (fun k hk => Nat.lt_of_lt_of_le (hM k hk) s.size), Up.refl _ _, ⟨fun k hk => hk.elim, fun u _ => Sl.nil _ _ _⟩, fun k hk => hk.elim, fun g => absurd g hk, fun _ => ⟨rfl, rfl, rfl⟩⟩
end Go.Proofs.Ytjafbffehmombaa
set_option linter.unusedVariables false
set_option linter.unusedSimpArgs false
namespace Go.Proofs.Ytjafbffehmombaa
open Go Go.XL
theorem tmod_small {a : Int} (n : Nat) (hn : 0 < n) (h : -9223372036854775808 ≤ a ∧ a ≤ 9223372036854775807) : -(n : Int) < a.tmod n ∧ a.tmod n < n := by
  have h1 := Int.tmod_lt_of_pos a (show (0 : Int) < n by omega)
  have h2 := Int.lt_tmod_of_pos a (show (0 : Int) < n by omega)
  omega
def putO (x : It) : OpT := ⟨4, 2, x.k.tmod 100, x.v.tmod 100⟩
def delO : OpT := ⟨4, 3, 0, 0⟩
def putsO (l : List It) : List OpT := (l.take 30).map putO
theorem putO_ok {x : It} (h : x.ok) : okP (putO x) := by
  have h1 := tmod_small 100 (by decide) h.1
  have h2 := tmod_small 100 (by decide) h.2
  rw [show ((100 : Nat) : Int) = 100 from rfl] at h1 h2
  simp [putO, okP, kindP, hasAP, hasBP]; omega
theorem delO_ok : okP delO := by decide
theorem putsO_step {l : List It} {i : Nat} {x : It} (h : l[i]? = some x) : (i < 30 → putsO (l.take (i + 1)) = putsO (l.take i) ++ [putO x]) ∧ (¬ i < 30 → putsO (l.take (i + 1)) = putsO (l.take i)) := by
  unfold putsO
  rw [List.take_take, List.take_take]
  constructor
  · intro hi
    rw [Nat.min_eq_right (by omega : i + 1 ≤ 30), Nat.min_eq_right (by omega : i ≤ 30), List.take_add_one, h, List.map_append]; rfl
  · intro hi
    rw [Nat.min_eq_left (by omega : 30 ≤ i + 1), Nat.min_eq_left (by omega : 30 ≤ i)]
theorem putsO_len (l : List It) : (putsO l).length ≤ 30 := by unfold putsO; rw [List.length_map, List.length_take]; omega
theorem puts_heap : ∀ (ps : List OpT) {m : Mo}, (∀ o ∈ ps, ∃ x, o = putO x) → m.heap.length + ps.length ≤ 200 → (runM m ps).1.heap.length = m.heap.length + ps.length
  | [], m, _, _ => rfl
  | o :: ps, m, h, hl => by
    obtain ⟨x, rfl⟩ := h o (by simp)
    simp only [List.length_cons] at hl
    have hn : ¬ 200 ≤ m.heap.length := by omega
    have e : (doM m (putO x)).1.heap.length = m.heap.length + 1 := by
      have := (whN_spec ⟨x.k.tmod 100, x.v.tmod 100⟩ m.heap).1
      simp [doM, putO, heapM, hn]; omega
    have ih := puts_heap ps (m := (doM m (putO x)).1) (fun o ho => h o (by simp [ho])) (by omega)
    simp only [runM, List.length_cons]
    omega
theorem dels_heap : ∀ (k : Nat) {m : Mo}, k ≤ m.heap.length → (runM m (List.replicate k delO)).1.heap = m.heap.drop k ∧ ∀ j x, j < k → m.heap[j]? = some x → (runM m (List.replicate k delO)).2[j]? = some ⟨0, x.k, x.v⟩
  | 0, m, _ => ⟨rfl, fun j x hj => absurd hj (Nat.not_lt_zero _)⟩
  | k + 1, m, h => by
    have h0 : ¬ m.heap.length = 0 := by omega
    have e : doM m delO = ({ m with heap := m.heap.drop 1 }, ⟨0, (valAt m.heap 0).k, (valAt m.heap 0).v⟩) := by
      have hne : ¬ m.heap = [] := fun q => h0 (by rw [q]; rfl)
      simp [doM, delO, heapM, hne]
    obtain ⟨i1, i2⟩ := dels_heap k (m := { m with heap := m.heap.drop 1 }) (by simp only [List.length_drop]; omega)
    rw [List.replicate_succ]
    simp only [runM, e]
    refine ⟨by rw [i1, List.drop_drop, Nat.add_comm], fun j x hj hx => ?_⟩
    cases j with
    | zero => rw [valAt_get hx]; rfl
    | succ j => exact i2 j x (by omega) (by simp only [List.getElem?_drop]; rw [← hx]; congr 1; omega)
theorem heap_run {ps : List OpT} (h : ∀ o ∈ ps, ∃ x : It, x.ok ∧ o = putO x) (hl : ps.length ≤ 30) : runOk m0 (ps ++ List.replicate ps.length delO) ∧ (runM m0 (ps ++ List.replicate ps.length delO)).1.heap.length = 0 ∧
    ∀ i x y, ps.length + 1 ≤ i → (runM m0 (ps ++ List.replicate ps.length delO)).2[i - 1]? = some x → (runM m0 (ps ++ List.replicate ps.length delO)).2[i]? = some y → ¬ x.a > y.a ∧ (x.a = y.a → ¬ x.b > y.b) := by
  have hok : runOk m0 (ps ++ List.replicate ps.length delO) := ⟨m0_right, fun o ho => by
    rcases List.mem_append.1 ho with ho | ho
    · obtain ⟨x, hx, rfl⟩ := h o ho; exact putO_ok hx
    · rw [(List.mem_replicate.1 ho).2]; exact delO_ok⟩
  have hokp : runOk m0 ps := ⟨m0_right, fun o ho => hok.2 o (List.mem_append.2 (.inl ho))⟩
  have hr := rightM_run hokp
  have hs : SrtH (runM m0 ps).1.heap := ((rightM_iff _).1 hr).1
  have hpl := puts_heap ps (m := m0) (fun o ho => (h o ho).imp fun x q => q.2) (by show 0 + _ ≤ _; omega)
  rw [show m0.heap.length = 0 from rfl, Nat.zero_add] at hpl
  obtain ⟨d1, d2⟩ := dels_heap ps.length (m := (runM m0 ps).1) (Nat.le_of_eq hpl.symm)
  refine ⟨hok, ?_, fun i x y hi hx hy => ?_⟩
  · rw [runM_app, d1, List.length_drop, hpl]; omega
  · have hlt := lt_of_get hy
    rw [runM_len, List.length_append, List.length_replicate] at hlt
    rw [runM_app] at hx hy
    have hrl : (runM m0 ps).2.length = ps.length := runM_len _ _
    rw [List.getElem?_append_right (by omega), hrl] at hx hy
    obtain ⟨u, hu⟩ := getSome (l := (runM m0 ps).1.heap) (i := i - 1 - ps.length) (by omega)
    obtain ⟨v, hv⟩ := getSome (l := (runM m0 ps).1.heap) (i := i - ps.length) (by omega)
    rw [d2 _ u (by omega) hu] at hx
    rw [d2 _ v (by omega) hv] at hy
    cases hx
    cases hy
    have := hs (i - 1 - ps.length) u v hu (by rw [← hv]; congr 1; omega)
    unfold lessP at this
    refine ⟨by show ¬ v.k < u.k; omega, fun e => ?_⟩
    have e : u.k = v.k := e
    show ¬ v.v < u.v
    omega
set_option maxHeartbeats 2000000 in
theorem law_ModelHeap (w : World) (l : List It) (pa : Option Addr) (pc : Nat) (hlc : l.length ≤ pc) (hcm : pc ≤ maxLen) (hs : Sl w pa 2 (l.map It.cells)) (hli : ∀ x ∈ l, x.ok) :
    FC Try.prog 4 [.slice pa l.length pc] w (Val (.bool true) w) := by
  have hll : l.length ≤ 9223372036854775807 := Nat.le_trans hlc (Nat.le_trans hcm (by decide))
  refine FC.intro Try.func4 rfl Try.ntmps4 rfl ?_
  have S := Sub.refl w
  refine RC.seq ?_
  refine RC.region rfl ?_
  refine RL.ev (.assign rfl) rfl rfl ?_
  refine RL.nil (RC.back ?_)
  refine RC.seq ?_
  refine RC.region rfl ?_
  refine RL.ev (.assign rfl) rfl rfl ?_
  refine RL.nil (RC.back ?_)
  refine RC.seq ?_
  refine RC.seq ?_
  refine RC.region rfl ?_
  refine RL.ev (.move rfl) rfl rfl ?_
  refine RL.ev (.len sl22 rfl) rfl rfl ?_
  refine RL.ev (.move rfl) rfl rfl ?_
  refine RL.nil (RC.back ?_)
  refine RC.block ?_
  refine RC.loop (α := Nat × List OpT × Option Addr × Nat) (fun x => [(2, .bool false), (3, .slice x.2.2.1 (x.2.1.map OpT.cells).length x.2.2.2), (13, .slice pa l.length pc), (14, .int .i64 (l.length : Int)), (15, .int .i64 (x.1 : Int))]) (fun x w1 => (x.1 ≤ l.length ∧ x.2.1 = putsO (l.take x.1)) ∧ Ows w.heap.size w1 34 4 (.slice x.2.2.1 (x.2.1.map OpT.cells).length x.2.2.2) (x.2.1.map OpT.cells) ∧ Sub w w1) (fun x => l.length - x.1) (0, [], none, 0) (keep_of (by repeat (first | exact trivial | refine And.intro rfl ?_))) (⟨⟨Nat.zero_le _, rfl⟩, Ows.nil _ _ _ _, S⟩) (fun x w1 hJ => ?_)
  obtain ⟨i, os, ao, co⟩ := x; obtain ⟨⟨hi, hos⟩, o3, S⟩ := hJ; simp only [] at hi hos o3; have szB := S.size; have hpl := putsO_len (l.take i); rw [← hos] at hpl
  refine RC.seq ?_
  refine RC.region rfl ?_
  refine RL.ev (.bin rfl rfl rfl) rfl rfl ?_
  refine RL.nil (RC.back ?_)
  refine RC.seq ?_
  refine RC.cond_dec rfl (fun h2 => ?_) (fun h2 => ?_)
  ·
    obtain ⟨x, hx⟩ := getSome (l := l) (i := i) (by omega)
    have hst := putsO_step hx
    rw [← hos] at hst
    refine RC.skip (RC.back ?_)
    refine RC.seq ?_
    refine RC.block ?_
    refine RC.seq ?_
    refine RC.region rfl ?_
    refine RL.ev (.move rfl) rfl rfl ?_
    refine RL.ev (.indexS sl22 rfl rfl (by omega) (hs.is (i := 0) (by simp only [List.length_map, List.length_cons, List.length_nil]; omega))) rfl rfl ?_
    refine RL.ev (.loadR ([.int .i64 x.k, .int .i64 x.v]) sh45 rfl ((hs.sub S).rowAt (enc := It.cells) (i := i) hx) rfl) rfl rfl ?_
    refine RL.alloc ze45 rfl rfl (fun b_5 w_5 e_5 z_5 hb_5 s_5 => ?_)
    have ge_5 := S.le e_5
    have d_o3_b_5 := o3.neNew e_5
    have S := S.trans s_5
    have o3 := o3.sub s_5
    have szB := Nat.le_trans szB s_5.size
    refine RL.ev (.assign rfl) rfl rfl ?_
    refine RL.store sh45 rfl rfl rfl hb_5 (by exact Nat.le_of_ble_eq_true rfl) (by rfl) rfl (fun w3 z3 hb_5 a3 => ?_)
    have S := S.upd a3 ge_5
    have o3 := o3.updD a3 d_o3_b_5
    have szB := Nat.le_trans szB a3.size
    have hb_5 : Has w3 b_5 ([.int .i64 x.k, .int .i64 x.v]) _ := hb_5.now (by kernel_rfl)
    refine RL.nil (RC.back ?_)
    refine RC.seq ?_
    refine RC.region rfl ?_
    refine RL.ev (.move rfl) rfl rfl ?_
    refine RL.ev (.bin rfl rfl rfl) rfl rfl ?_
    refine RL.nil (RC.back ?_)
    refine RC.cond_dec rfl (fun h4 => ?_) (fun h4 => ?_)
    ·
      have hst := hst.1 (by omega)
      refine RC.region rfl ?_
      refine RL.ev (.move rfl) rfl rfl ?_
      refine RL.ev (.field0 fo45_0 rfl) rfl rfl ?_
      refine RL.ev (.load1 sh2 rfl (hb_5.cell rfl)) rfl rfl ?_
      refine RL.ev (.as (v' := .int .i64 (x.k.tmod 100)) (.rem rfl rfl (by decide)) (by rfl)) rfl rfl ?_
      refine RL.ev (.field0 fo45_1 rfl) rfl rfl ?_
      refine RL.ev (.load1 sh2 rfl (hb_5.cell rfl)) rfl rfl ?_
      refine RL.ev (.as (v' := .int .i64 (x.v.tmod 100)) (.rem rfl rfl (by decide)) (by rfl)) rfl rfl ?_
      refine RL.ev (.as (v' := .agg (putO x).cells.toArray) (.buildS ze34 pl34 rfl rfl) (by rfl)) rfl rfl ?_
      refine RL.buildSlice1 sl26 _ ze34 rfl rfl rfl rfl rfl rfl rfl (fun b_30 w_30 e_30 z_30 hb_30 s_30 => ?_)
      have ge_30 := S.le e_30
      have n_5__30 := hb_5.ne e_30
      have d_o3_b_30 := o3.neNew e_30
      have S := S.trans s_30
      have o3 := o3.sub s_30
      have szB := Nat.le_trans szB s_30.size
      have hb_5 := hb_5.sub s_30
      have sz_31 := S.size
      have ltb_5_31 := hb_5.lt
      have ltb_30_31 := hb_30.lt
      refine RL.append2 (base := w.heap.size) (rows := os.map OpT.cells) (news := [_]) sl26 ze34 rfl rfl rfl rfl (.inl o3) (Has.slOne hb_30) rfl (by intro r hr; rw [List.mem_singleton] at hr; subst hr; rfl) rfl (by (try simp only [List.length_map, List.length_nil, List.length_append, List.length_cons]); omega) (by (try simp only [List.length_map, List.length_nil, List.length_append, List.length_cons]); omega) (by omega) rfl rfl (fun v_31 w_31 hc_31 ho_31 ag_31 ob_31 => ?_)
      have o31 := ho_31 (.inl (by simp))
      rw [show _ ++ [_] = ((os ++ [putO x]).map OpT.cells) from by rw [List.map_append]; rfl] at o31
      have d_o31_b_5 := obNe ob_31 d_o3_b_5 hb_5.lt
      have S := S.agrN ag_31 (fun k e => Nat.le_trans (by omega) e.2)
      have szB := Nat.le_trans szB ag_31.size
      have hb_5 := hb_5.step ag_31 (fun e => d_o3_b_5 _ e.1 rfl)
      obtain ⟨a_31, c_31, rfl, k_31⟩ := o31.form
      refine RL.ev (.assign rfl) rfl rfl ?_
      refine RL.nil (RC.back ?_)
      refine RC.region rfl ?_
      refine RL.ev (.as (.bin rfl rfl rfl) (wi64 (y := ((i + 1 : Nat) : Int)) (by omega) (by omega))) rfl rfl ?_
      refine RL.ev (.move rfl) rfl rfl ?_
      exact RL.nil (fun a ka => ⟨(i + 1, os ++ [putO x], a_31, c_31), ⟨⟨by omega, hst.symm⟩, o31, S⟩, by omega, ka.keep (keep_of (by repeat (first | exact trivial | refine And.intro rfl ?_)))⟩)
    ·
      have hst := hst.2 (by omega)
      refine RC.skip (RC.back ?_)
      refine RC.region rfl ?_
      refine RL.ev (.as (.bin rfl rfl rfl) (wi64 (y := ((i + 1 : Nat) : Int)) (by omega) (by omega))) rfl rfl ?_
      refine RL.ev (.move rfl) rfl rfl ?_
      exact RL.nil (fun a ka => ⟨(i + 1, os, ao, co), ⟨⟨by omega, hst.symm⟩, o3, S⟩, by omega, ka.keep (keep_of (by repeat (first | exact trivial | refine And.intro rfl ?_)))⟩)
  ·
    obtain rfl : i = l.length := (by omega)
    rw [List.take_length] at hos
    have hps : ∀ o ∈ os, ∃ x : It, x.ok ∧ o = putO x := (fun o ho => by rw [hos] at ho; obtain ⟨x, hx, rfl⟩ := List.mem_map.1 ho; exact ⟨x, hli x (List.mem_of_mem_take hx), rfl⟩)
    obtain ⟨hok, hh0, hup⟩ := heap_run hps hpl
    refine RC.exit rfl (RC.back ?_)
    refine RC.seq ?_
    refine RC.region rfl ?_
    refine RL.ev (.move rfl) rfl rfl ?_
    refine RL.ev (.as (v' := .int .i64 (os.length : Int)) (.len sl26 rfl) (by rw [List.length_map])) rfl rfl ?_
    refine RL.ev (.assign rfl) rfl rfl ?_
    refine RL.nil (RC.back ?_)
    refine RC.seq ?_
    refine RC.seq ?_
    refine RC.region rfl ?_
    refine RL.ev (.move rfl) rfl rfl ?_
    refine RL.ev (.move rfl) rfl rfl ?_
    refine RL.nil (RC.back ?_)
    refine RC.block ?_
    refine RC.loop (α := Nat × List OpT × Option Addr × Nat) (fun x => [(2, .bool false), (3, .slice x.2.2.1 (x.2.1.map OpT.cells).length x.2.2.2), (6, .int .i64 (os.length : Int)), (35, .int .i64 (os.length : Int)), (36, .int .i64 (x.1 : Int))]) (fun x w5 => (x.1 ≤ os.length ∧ x.2.1 = os ++ List.replicate x.1 delO) ∧ Ows w.heap.size w5 34 4 (.slice x.2.2.1 (x.2.1.map OpT.cells).length x.2.2.2) (x.2.1.map OpT.cells) ∧ Sub w w5) (fun x => os.length - x.1) (0, os, ao, co) (keep_of (by repeat (first | exact trivial | refine And.intro rfl ?_))) (⟨⟨Nat.zero_le _, by simp⟩, o3, S⟩) (fun x w5 hJ => ?_)
    obtain ⟨j, qs, aq, cq⟩ := x; obtain ⟨⟨hj, hqs⟩, o3, S⟩ := hJ; simp only [] at hj hqs o3; have szB := S.size; have hql : qs.length = os.length + j := (by rw [hqs, List.length_append, List.length_replicate])
    refine RC.seq ?_
    refine RC.region rfl ?_
    refine RL.ev (.bin rfl rfl rfl) rfl rfl ?_
    refine RL.nil (RC.back ?_)
    refine RC.seq ?_
    refine RC.cond_dec rfl (fun h6 => ?_) (fun h6 => ?_)
    ·
      refine RC.skip (RC.back ?_)
      refine RC.seq ?_
      refine RC.block ?_
      refine RC.region rfl ?_
      refine RL.ev (.move rfl) rfl rfl ?_
      refine RL.ev (.as (v' := .agg delO.cells.toArray) (.buildS ze34 pl34 rfl rfl) (by rfl)) rfl rfl ?_
      refine RL.buildSlice1 sl26 _ ze34 rfl rfl rfl rfl rfl rfl rfl (fun b_40 w_40 e_40 z_40 hb_40 s_40 => ?_)
      have ge_40 := S.le e_40
      have d_o3_b_40 := o3.neNew e_40
      have S := S.trans s_40
      have o3 := o3.sub s_40
      have szB := Nat.le_trans szB s_40.size
      have sz_41 := S.size
      have ltb_40_41 := hb_40.lt
      refine RL.append2 (base := w.heap.size) (rows := qs.map OpT.cells) (news := [_]) sl26 ze34 rfl rfl rfl rfl (.inl o3) (Has.slOne hb_40) rfl (by intro r hr; rw [List.mem_singleton] at hr; subst hr; rfl) rfl (by (try simp only [List.length_map, List.length_nil, List.length_append, List.length_cons]); omega) (by (try simp only [List.length_map, List.length_nil, List.length_append, List.length_cons]); omega) (by omega) rfl rfl (fun v_41 w_41 hc_41 ho_41 ag_41 ob_41 => ?_)
      have o41 := ho_41 (.inl (by simp))
      rw [show _ ++ [_] = ((qs ++ [delO]).map OpT.cells) from by rw [List.map_append]; rfl] at o41
      have S := S.agrN ag_41 (fun k e => Nat.le_trans (by omega) e.2)
      have szB := Nat.le_trans szB ag_41.size
      obtain ⟨a_41, c_41, rfl, k_41⟩ := o41.form
      refine RL.ev (.assign rfl) rfl rfl ?_
      refine RL.nil (RC.back ?_)
      refine RC.region rfl ?_
      refine RL.ev (.as (.bin rfl rfl rfl) (wi64 (y := ((j + 1 : Nat) : Int)) (by omega) (by omega))) rfl rfl ?_
      refine RL.ev (.move rfl) rfl rfl ?_
      exact RL.nil (fun a ka => ⟨(j + 1, qs ++ [delO], a_41, c_41), ⟨⟨by omega, by show qs ++ [delO] = _; rw [hqs, List.replicate_succ', List.append_assoc]⟩, o41, S⟩, by omega, ka.keep (keep_of (by repeat (first | exact trivial | refine And.intro rfl ?_)))⟩)
    ·
      obtain rfl : j = os.length := (by omega)
      have hsq := o3.sl.1
      rw [← hqs] at hok hh0 hup
      have h0 := m0_F (fun _ => False) (w := w5) (fun k h => h.elim)
      refine RC.exit rfl (RC.back ?_)
      refine RC.seq ?_
      refine RC.region rfl ?_
      refine RL.ev (.as (v' := moV p0 m0) (.buildS ze25 pl25 rfl rfl) (by rfl)) rfl rfl ?_
      refine RL.ev (.move rfl) rfl rfl ?_
      refine RL.call rfl ok13 (c_Run p0 m0 m0_S qs aq cq _ (List.length_map _) (by omega) w5 _ h0 hsq) rfl rfl ?_
      rintro _ w7 h46
      obtain ⟨s8, p', r1, rs, e, M', a', c', M2, rfl, hs', hF', _, hF2, _, hy, _⟩ := h46.out (fun k h => h.elim)
      obtain ⟨e1, e2, e3⟩ := hy hok
      rw [← e1] at hh0
      rw [← e2] at hup
      have hrl : rs.length = 2 * os.length := (by rw [e2, runM_len]; omega)
      have S := S.trans s8
      have o3 := o3.sub s8
      have szB := Nat.le_trans szB s8.size
      have hR2 := hF2.now
      refine RL.ev (.move rfl) rfl rfl ?_
      refine RL.ev (.extract rfl rfl) rfl rfl ?_
      refine RL.ev (.extract rfl rfl) rfl rfl ?_
      refine RL.ev (.extract rfl rfl) rfl rfl ?_
      refine RL.alloc ze25 rfl rfl (fun b_7 w_7 e_7 z_7 hb_7 s_7 => ?_)
      have ge_7 := S.le e_7
      have d_hF2_b_7 := hF2.neNew e_7
      have S := S.trans s_7
      have hF2 := hF2.sub s_7
      refine RL.store sh25 rfl rfl rfl hb_7 (by exact Nat.le_of_ble_eq_true rfl) (by rfl) rfl (fun w9 z9 hb_7 a9 => ?_)
      have S := S.upd a9 ge_7
      have hF2 := hF2.updD a9 d_hF2_b_7
      refine RL.ev (.assign rfl) rfl rfl ?_
      refine RL.ev (.assign rfl) rfl rfl ?_
      refine RL.nil (RC.back ?_)
      refine RC.seq ?_
      refine RC.seq ?_
      refine RC.region rfl ?_
      refine RL.ev (.move rfl) rfl rfl ?_
      refine RL.ev (.as (v' := .bool false) (.bin rfl rfl rfl) (congrArg Value.bool (decide_eq_false (fun h => h e3)))) rfl rfl ?_
      refine RL.ev (.move rfl) rfl rfl ?_
      refine RL.ev (.move rfl) rfl rfl ?_
      refine RL.ev (.len sl28 rfl) rfl rfl ?_
      refine RL.ev (.move rfl) rfl rfl ?_
      refine RL.ev (.as (.bin rfl rfl rfl) (wi64 (y := ((2 * os.length : Nat) : Int)) (by omega) (by omega))) rfl rfl ?_
      refine RL.ev (.as (v' := .bool false) (.bin rfl rfl rfl) (congrArg Value.bool (decide_eq_false (fun h => h (by rw [List.length_map, hrl]))))) rfl rfl ?_
      refine RL.ev (.pick_f rfl rfl) rfl rfl ?_
      refine RL.ev (.move rfl) rfl rfl ?_
      refine RL.ev (.field0 fo25_3 rfl) rfl rfl ?_
      refine RL.ev (.load1 sh22 rfl (hb_7.cell rfl)) rfl rfl ?_
      refine RL.ev (.len sl22 rfl) rfl rfl ?_
      refine RL.ev (.as (v' := .bool false) (.bin rfl rfl rfl) (congrArg Value.bool (decide_eq_false (fun h => h (by rw [hh0]; rfl))))) rfl rfl ?_
      refine RL.ev (.pick_f rfl rfl) rfl rfl ?_
      refine RL.ev (.move rfl) rfl rfl ?_
      refine RL.call rfl ok16 (c_alive14 w9) rfl rfl ?_
      rintro _ w10 ⟨rfl, s11⟩
      have S := S.trans s11
      have hF2 := hF2.sub s11
      have hb_7 := hb_7.sub s11
      refine RL.ev (.not rfl) rfl rfl ?_
      refine RL.ev (.pick_f rfl rfl) rfl rfl ?_
      refine RL.nil (RC.back ?_)
      refine RC.cond_f rfl ?_
      refine RC.skip (RC.back ?_)
      refine RC.seq ?_
      refine RC.seq ?_
      refine RC.region rfl ?_
      refine RL.ev (.move rfl) rfl rfl ?_
      refine RL.ev (.as (.bin rfl rfl rfl) (wi64 (y := ((os.length + 1 : Nat) : Int)) (by omega) (by omega))) rfl rfl ?_
      refine RL.ev (.assign rfl) rfl rfl ?_
      refine RL.nil (RC.back ?_)
      refine RC.block ?_
      refine RC.loop (α := Nat) (fun i => [(2, .bool false), (6, .int .i64 (os.length : Int)), (8, .slice a' (rs.map ResT.cells).length c'), (10, .int .i64 (i : Int))]) (fun i w12 => os.length + 1 ≤ i ∧ Ft M2 (fun u => Sl u a' 3 (rs.map ResT.cells)) w12 ∧ Sub w w12) (fun i => 2 * os.length + 2 - i) (os.length + 1) (keep_of (by repeat (first | exact trivial | refine And.intro rfl ?_))) (⟨Nat.le_refl _, hF2, S⟩) (fun i w12 hJ => ?_)
      obtain ⟨hi, hF2, S⟩ := hJ
      refine RC.seq ?_
      refine RC.seq ?_
      refine RC.region rfl ?_
      refine RL.ev (.move rfl) rfl rfl ?_
      refine RL.ev (.move rfl) rfl rfl ?_
      refine RL.ev (.as (.bin rfl rfl rfl) (wi64 (y := ((2 * os.length : Nat) : Int)) (by omega) (by omega))) rfl rfl ?_
      refine RL.ev (.bin rfl rfl rfl) rfl rfl ?_
      refine RL.nil (RC.back ?_)
      refine RC.cond_dec rfl (fun h13 => ?_) (fun h13 => ?_)
      ·
        obtain ⟨x, hx⟩ := getSome (l := rs) (i := i - 1) (by omega)
        obtain ⟨y, hy⟩ := getSome (l := rs) (i := i) (by omega)
        obtain ⟨hxy, hxy2⟩ := hup i x y hi hx hy
        refine RC.skip (RC.back ?_)
        refine RC.seq ?_
        refine RC.block ?_
        refine RC.seq ?_
        refine RC.drawD (fun k => False) [11, 12] w12.heap.size 13 rfl rfl mxo (fun w14 s15 => ?_)
        have hNN : ∀ k, ((False) ∨ w12.heap.size ≤ k) → w.heap.size ≤ k := fun k e => e.elim (fun e => e.elim) (fun e => Nat.le_trans S.size e)
        have ent_S := S.size
        have hN0 : ∀ k, w12.heap.size ≤ k → w.heap.size ≤ k := fun k e => Nat.le_trans S.size e
        have ltD_hF2 := fun k hk => (hF2.ge k hk).2
        have szD := Nat.le_refl w12.heap.size
        have S := S.trans s15
        have hF2 := hF2.sub s15
        have szD := Nat.le_trans szD s15.size
        refine RD.take 0 rfl (by kernel_rfl) (by kernel_rfl) (by kernel_rfl) (fun w' s' => .move rfl) rfl rfl ?_
        refine RD.take 1 rfl (by kernel_rfl) (by kernel_rfl) (by kernel_rfl) (fun w' s' => .move rfl) rfl rfl ?_
        refine RD.take 2 rfl (by kernel_rfl) (by kernel_rfl) (by kernel_rfl) (fun w' s' => .as (.bin rfl rfl rfl) (wi64 (y := ((i - 1 : Nat) : Int)) (by omega) (by omega))) rfl rfl ?_
        refine RD.take 3 rfl (by kernel_rfl) (by kernel_rfl) (by kernel_rfl) (fun w' s' => .indexS sl28 rfl rfl (by rw [List.length_map]; omega) (hR2.is (i := 0) (by rw [List.length_map]; omega))) rfl rfl ?_
        refine RD.take 4 rfl (by kernel_rfl) (by kernel_rfl) (by kernel_rfl) (fun w' s' => .loadR (x.cells) sh39 rfl ((hF2.step s' (fun k hk e => e.elim (fun e => e.elim) (Nat.not_le.2 (ltD_hF2 k hk)))).now.rowAt (enc := ResT.cells) (i := i - 1) hx) rfl) rfl rfl ?_
        refine RD.take 5 rfl (by kernel_rfl) (by kernel_rfl) (by kernel_rfl) (fun w' s' => .move rfl) rfl rfl ?_
        refine RD.take 6 rfl (by kernel_rfl) (by kernel_rfl) (by kernel_rfl) (fun w' s' => .move rfl) rfl rfl ?_
        refine RD.take 7 rfl (by kernel_rfl) (by kernel_rfl) (by kernel_rfl) (fun w' s' => .indexS sl28 rfl rfl (by rw [List.length_map]; omega) (hR2.is (i := 0) (by rw [List.length_map]; omega))) rfl rfl ?_
        refine RD.take 8 rfl (by kernel_rfl) (by kernel_rfl) (by kernel_rfl) (fun w' s' => .loadR (y.cells) sh39 rfl ((hF2.step s' (fun k hk e => e.elim (fun e => e.elim) (Nat.not_le.2 (ltD_hF2 k hk)))).now.rowAt (enc := ResT.cells) (i := i) hy) rfl) rfl rfl ?_
        refine RD.all [9, 10] (by kernel_rfl) rfl (RDs.cons rfl ?_ (RDs.cons rfl ?_ (RDs.nil)))
        ·
          refine RL.alloc ze39 rfl rfl (fun b_11 w_11 e_11 z_11 hb_11 s_11 => ?_)
          have fr_b_11 : w12.heap.size ≤ b_11 := by rw [e_11]; exact szD
          have ge_11 := S.le e_11
          have d_hF2_b_11 := hF2.neNew e_11
          have S := S.trans s_11
          have hF2 := hF2.sub s_11
          have szD := Nat.le_trans szD s_11.size
          refine RD.back s_11.agr ?_
          refine RD.all [10] (by kernel_rfl) rfl (RDs.cons rfl ?_ (RDs.nil))
          refine RL.alloc ze39 rfl rfl (fun b_12 w_12 e_12 z_12 hb_12 s_12 => ?_)
          have fr_b_12 : w12.heap.size ≤ b_12 := by rw [e_12]; exact szD
          have ge_12 := S.le e_12
          have n_11__12 := hb_11.ne e_12
          have d_hF2_b_12 := hF2.neNew e_12
          have S := S.trans s_12
          have hF2 := hF2.sub s_12
          have szD := Nat.le_trans szD s_12.size
          have hb_11 := hb_11.sub s_12
          refine RD.back s_12.agr ?_
          refine RD.all [11] (by kernel_rfl) rfl (RDs.cons rfl ?_ (RDs.nil))
          refine RL.store sh39 rfl rfl rfl hb_11 (by exact Nat.le_of_ble_eq_true rfl) (by rfl) rfl (fun w16 z16 hb_11 a16 => ?_)
          have S := S.upd a16 ge_11
          have hF2 := hF2.updD a16 d_hF2_b_11
          have szD := Nat.le_trans szD a16.size
          have hb_12 := hb_12.upd a16 n_11__12.symm
          have hb_11 : Has w16 b_11 (x.cells) _ := hb_11.now (by kernel_rfl)
          refine RD.backW rfl (a16.mono fun k _ e => e ▸ (.inr fr_b_11)) ?_
          refine RD.all [12] (by kernel_rfl) rfl (RDs.cons rfl ?_ (RDs.nil))
          refine RL.store sh39 rfl rfl rfl hb_12 (by exact Nat.le_of_ble_eq_true rfl) (by rfl) rfl (fun w17 z17 hb_12 a17 => ?_)
          have S := S.upd a17 ge_12
          have hF2 := hF2.updD a17 d_hF2_b_12
          have szD := Nat.le_trans szD a17.size
          have hb_11 := hb_11.upd a17 n_11__12
          have hb_12 : Has w17 b_12 (y.cells) _ := hb_12.now (by kernel_rfl)
          refine RD.backW rfl (a17.mono fun k _ e => e ▸ (.inr fr_b_12)) ?_
          refine RD.done (by kernel_rfl) (RC.back ?_)
          refine RC.seq ?_
          refine RC.region rfl ?_
          refine RL.ev (.field0 fo39_1 rfl) rfl rfl ?_
          refine RL.ev (.load1 sh2 rfl (hb_11.cell rfl)) rfl rfl ?_
          refine RL.ev (.field0 fo39_1 rfl) rfl rfl ?_
          refine RL.ev (.load1 sh2 rfl (hb_12.cell rfl)) rfl rfl ?_
          refine RL.ev (.as (v' := .bool false) (.bin rfl rfl rfl) (congrArg Value.bool (decide_eq_false (hxy)))) rfl rfl ?_
          refine RL.ev (.move rfl) rfl rfl ?_
          refine RL.ev (.field0 fo39_1 rfl) rfl rfl ?_
          refine RL.ev (.load1 sh2 rfl (hb_11.cell rfl)) rfl rfl ?_
          refine RL.ev (.field0 fo39_1 rfl) rfl rfl ?_
          refine RL.ev (.load1 sh2 rfl (hb_12.cell rfl)) rfl rfl ?_
          refine RL.ev (.bin rfl rfl rfl) rfl rfl ?_
          refine RL.ev (.move rfl) rfl rfl ?_
          refine RL.split 97 rfl (fun h18 => ?_) (fun h18 => ?_)
          ·
            have g97 : x.a = y.a := h18
            refine RL.ev (.field0 fo39_2 rfl) rfl rfl ?_
            refine RL.ev (.load1 sh2 rfl (hb_11.cell rfl)) rfl rfl ?_
            refine RL.ev (.field0 fo39_2 rfl) rfl rfl ?_
            refine RL.ev (.load1 sh2 rfl (hb_12.cell rfl)) rfl rfl ?_
            refine RL.ev (.as (v' := .bool false) (.bin rfl rfl rfl) (congrArg Value.bool (decide_eq_false (hxy2 g97)))) rfl rfl ?_
            refine RL.ev (.pick_t rfl rfl) rfl rfl ?_
            refine RL.ev (.pick_f rfl rfl) rfl rfl ?_
            refine RL.nil (RC.back ?_)
            refine RC.cond_f rfl ?_
            refine RC.skip (RC.back ?_)
            refine RC.region rfl ?_
            refine RL.ev (.move rfl) rfl rfl ?_
            refine RL.ev (.as (.bin rfl rfl rfl) (wi64 (y := ((i + 1 : Nat) : Int)) (by omega) (by omega))) rfl rfl ?_
            refine RL.ev (.assign rfl) rfl rfl ?_
            exact RL.nil (fun a ka => ⟨(i + 1), ⟨by omega, hF2, S⟩, by omega, ka.keep (keep_of (by repeat (first | exact trivial | refine And.intro rfl ?_)))⟩)
          ·
            refine RL.off rfl rfl ?_
            refine RL.off rfl rfl ?_
            refine RL.off rfl rfl ?_
            refine RL.off rfl rfl ?_
            refine RL.off rfl rfl ?_
            refine RL.ev (.pick_f rfl rfl) rfl rfl ?_
            refine RL.ev (.pick_f rfl rfl) rfl rfl ?_
            refine RL.nil (RC.back ?_)
            refine RC.cond_f rfl ?_
            refine RC.skip (RC.back ?_)
            refine RC.region rfl ?_
            refine RL.ev (.move rfl) rfl rfl ?_
            refine RL.ev (.as (.bin rfl rfl rfl) (wi64 (y := ((i + 1 : Nat) : Int)) (by omega) (by omega))) rfl rfl ?_
            refine RL.ev (.assign rfl) rfl rfl ?_
            exact RL.nil (fun a ka => ⟨(i + 1), ⟨by omega, hF2, S⟩, by omega, ka.keep (keep_of (by repeat (first | exact trivial | refine And.intro rfl ?_)))⟩)
        ·
          refine RL.alloc ze39 rfl rfl (fun b_12 w_12 e_12 z_12 hb_12 s_12 => ?_)
          have fr_b_12 : w12.heap.size ≤ b_12 := by rw [e_12]; exact szD
          have ge_12 := S.le e_12
          have d_hF2_b_12 := hF2.neNew e_12
          have S := S.trans s_12
          have hF2 := hF2.sub s_12
          have szD := Nat.le_trans szD s_12.size
          refine RD.back s_12.agr ?_
          refine RD.all [9] (by kernel_rfl) rfl (RDs.cons rfl ?_ (RDs.nil))
          refine RL.alloc ze39 rfl rfl (fun b_11 w_11 e_11 z_11 hb_11 s_11 => ?_)
          have fr_b_11 : w12.heap.size ≤ b_11 := by rw [e_11]; exact szD
          have ge_11 := S.le e_11
          have n_12__11 := hb_12.ne e_11
          have d_hF2_b_11 := hF2.neNew e_11
          have S := S.trans s_11
          have hF2 := hF2.sub s_11
          have szD := Nat.le_trans szD s_11.size
          have hb_12 := hb_12.sub s_11
          refine RD.back s_11.agr ?_
          refine RD.all [11] (by kernel_rfl) rfl (RDs.cons rfl ?_ (RDs.nil))
          refine RL.store sh39 rfl rfl rfl hb_11 (by exact Nat.le_of_ble_eq_true rfl) (by rfl) rfl (fun w19 z19 hb_11 a19 => ?_)
          have S := S.upd a19 ge_11
          have hF2 := hF2.updD a19 d_hF2_b_11
          have szD := Nat.le_trans szD a19.size
          have hb_12 := hb_12.upd a19 n_12__11
          have hb_11 : Has w19 b_11 (x.cells) _ := hb_11.now (by kernel_rfl)
          refine RD.backW rfl (a19.mono fun k _ e => e ▸ (.inr fr_b_11)) ?_
          refine RD.all [12] (by kernel_rfl) rfl (RDs.cons rfl ?_ (RDs.nil))
          refine RL.store sh39 rfl rfl rfl hb_12 (by exact Nat.le_of_ble_eq_true rfl) (by rfl) rfl (fun w20 z20 hb_12 a20 => ?_)
          have S := S.upd a20 ge_12
          have hF2 := hF2.updD a20 d_hF2_b_12
          have szD := Nat.le_trans szD a20.size
          have hb_11 := hb_11.upd a20 n_12__11.symm
          have hb_12 : Has w20 b_12 (y.cells) _ := hb_12.now (by kernel_rfl)
          refine RD.backW rfl (a20.mono fun k _ e => e ▸ (.inr fr_b_12)) ?_
          refine RD.done (by kernel_rfl) (RC.back ?_)
          refine RC.seq ?_
          refine RC.region rfl ?_
          refine RL.ev (.field0 fo39_1 rfl) rfl rfl ?_
          refine RL.ev (.load1 sh2 rfl (hb_11.cell rfl)) rfl rfl ?_
          refine RL.ev (.field0 fo39_1 rfl) rfl rfl ?_
          refine RL.ev (.load1 sh2 rfl (hb_12.cell rfl)) rfl rfl ?_
          refine RL.ev (.as (v' := .bool false) (.bin rfl rfl rfl) (congrArg Value.bool (decide_eq_false (hxy)))) rfl rfl ?_
          refine RL.ev (.move rfl) rfl rfl ?_
          refine RL.ev (.field0 fo39_1 rfl) rfl rfl ?_
          refine RL.ev (.load1 sh2 rfl (hb_11.cell rfl)) rfl rfl ?_
          refine RL.ev (.field0 fo39_1 rfl) rfl rfl ?_
          refine RL.ev (.load1 sh2 rfl (hb_12.cell rfl)) rfl rfl ?_
          refine RL.ev (.bin rfl rfl rfl) rfl rfl ?_
          refine RL.ev (.move rfl) rfl rfl ?_
          refine RL.split 97 rfl (fun h21 => ?_) (fun h21 => ?_)
          ·
            have g97 : x.a = y.a := h21
            refine RL.ev (.field0 fo39_2 rfl) rfl rfl ?_
            refine RL.ev (.load1 sh2 rfl (hb_11.cell rfl)) rfl rfl ?_
            refine RL.ev (.field0 fo39_2 rfl) rfl rfl ?_
            refine RL.ev (.load1 sh2 rfl (hb_12.cell rfl)) rfl rfl ?_
            refine RL.ev (.as (v' := .bool false) (.bin rfl rfl rfl) (congrArg Value.bool (decide_eq_false (hxy2 g97)))) rfl rfl ?_
            refine RL.ev (.pick_t rfl rfl) rfl rfl ?_
            refine RL.ev (.pick_f rfl rfl) rfl rfl ?_
            refine RL.nil (RC.back ?_)
            refine RC.cond_f rfl ?_
            refine RC.skip (RC.back ?_)
            refine RC.region rfl ?_
            refine RL.ev (.move rfl) rfl rfl ?_
            refine RL.ev (.as (.bin rfl rfl rfl) (wi64 (y := ((i + 1 : Nat) : Int)) (by omega) (by omega))) rfl rfl ?_
            refine RL.ev (.assign rfl) rfl rfl ?_
            exact RL.nil (fun a ka => ⟨(i + 1), ⟨by omega, hF2, S⟩, by omega, ka.keep (keep_of (by repeat (first | exact trivial | refine And.intro rfl ?_)))⟩)
          ·
            refine RL.off rfl rfl ?_
            refine RL.off rfl rfl ?_
            refine RL.off rfl rfl ?_
            refine RL.off rfl rfl ?_
            refine RL.off rfl rfl ?_
            refine RL.ev (.pick_f rfl rfl) rfl rfl ?_
            refine RL.ev (.pick_f rfl rfl) rfl rfl ?_
            refine RL.nil (RC.back ?_)
            refine RC.cond_f rfl ?_
            refine RC.skip (RC.back ?_)
            refine RC.region rfl ?_
            refine RL.ev (.move rfl) rfl rfl ?_
            refine RL.ev (.as (.bin rfl rfl rfl) (wi64 (y := ((i + 1 : Nat) : Int)) (by omega) (by omega))) rfl rfl ?_
            refine RL.ev (.assign rfl) rfl rfl ?_
            exact RL.nil (fun a ka => ⟨(i + 1), ⟨by omega, hF2, S⟩, by omega, ka.keep (keep_of (by repeat (first | exact trivial | refine And.intro rfl ?_)))⟩)
      ·
        refine RC.exit rfl (RC.back ?_)
        refine RC.seq ?_
        refine RC.region rfl ?_
        refine RL.ev (.assign rfl) rfl rfl ?_
        refine RL.nil (RC.back ?_)
        refine RC.done (rs := [.tmp 2]) (vs := [_]) rfl rfl ⟨rfl, trivial⟩ ?_
        -- end 1
        exact ⟨rfl, S⟩
end Go.Proofs.Ytjafbffehmombaa
