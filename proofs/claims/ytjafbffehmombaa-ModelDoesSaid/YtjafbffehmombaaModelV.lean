/-
  The package model: operations on a row.
-/
import Derived.Test.YtjafbffehmombaaModelW
set_option linter.unusedVariables false
set_option linter.unusedSimpArgs false
namespace Go.Proofs.Ytjafbffehmombaa
open Go Go.XL

def rowM (l : List Int) (o : OpT) : List Int × ResT :=
  if o.kind = 6 then (l, ⟨0, l.length, 0⟩)
  else if o.kind = 2 ∨ o.kind = 4 then
    if 200 ≤ l.length then (l, ⟨5, 0, 0⟩) else (if o.kind = 2 then l ++ [o.a] else o.a :: l, ⟨0, 0, 0⟩)
  else if o.kind = 1 then
    if o.a < 0 ∨ (l.length : Int) ≤ o.a then (l, ⟨3, 0, 0⟩) else (l, ⟨0, l.getD o.a.toNat 0, 0⟩)
  else if l.length = 0 then (l, ⟨3, 0, 0⟩)
  else if o.kind = 3 then (l.take (l.length - 1), ⟨0, l.getD (l.length - 1) 0, 0⟩)
  else (l.drop 1, ⟨0, l.getD 0 0, 0⟩)
theorem getD_of {l : List Int} {n : Nat} {x : Int} (h : l[n]? = some x) : l.getD n 0 = x := by rw [List.getD_eq_getElem?_getD, h]; rfl
def AnsV (M : Nat → Prop) (w w' : World) (q : List Int × ResT) (u : Value) : Prop := Sub w w' ∧ ∃ a' c' M', u = .tuple #[.slice a' q.1.length c', .agg q.2.cells.toArray] ∧ q.1.length ≤ c' ∧ Ft M' (fun u => Sl u a' 1 (q.1.map fun x => [i6 x])) w' ∧ Up M w M'
theorem c_clip (a : Option Addr) (n c : Nat) (hn : n ≤ c) (w : World) : FC Try.prog 78 [.slice a n c] w (Val (.slice a n n) w) := by
  refine FC.intro Try.func78 rfl Try.ntmps78 rfl ?_
  have S := Sub.refl w
  refine RC.seq ?_
  refine RC.region rfl ?_
  refine RL.ev (.assign rfl) rfl rfl ?_
  refine RL.nil (RC.back ?_)
  refine RC.seq ?_
  refine RC.region rfl ?_
  refine RL.ev (.move rfl) rfl rfl ?_
  refine RL.ev (.move rfl) rfl rfl ?_
  refine RL.ev (.len sl23 rfl) rfl rfl ?_
  refine RL.ev (.move rfl) rfl rfl ?_
  refine RL.ev (.len sl23 rfl) rfl rfl ?_
  refine RL.ev (.sliceHM sl23 rfl rfl rfl (by omega)) rfl rfl ?_
  refine RL.ev (.assign rfl) rfl rfl ?_
  refine RL.nil (RC.back ?_)
  refine RC.done (rs := [.tmp 2]) (vs := [_]) rfl rfl ⟨rfl, trivial⟩ ?_
  -- end 1
  exact ⟨rfl, S⟩
theorem c_row (l : List Int) (a : Option Addr) (c m : Nat) (hm : m = l.length) (hl200 : l.length ≤ 200) (hc : l.length ≤ c) (o : OpT) (hok : okP o) (w : World) (M : Nat → Prop) (hF : Ft M (fun u => Sl u a 1 (l.map fun x => [i6 x])) w) :
    FC Try.prog 65 [.slice a m c, .agg o.cells.toArray] w (fun u w' => AnsV M w w' (rowM l o) u) := by
  subst hm
  have hl := hF.now
  have hk := hok.1
  have hkk : 1 ≤ o.kind ∧ o.kind ≤ 6 := ⟨hk.2.2.1, hk.2.2.2.1⟩
  refine FC.intro Try.func65 rfl Try.ntmps65 rfl ?_
  have S := Sub.refl w
  refine RC.seq ?_
  refine RC.region rfl ?_
  refine RL.box rfl rfl rfl (fun b_3 w_3 e_3 z_3 hb_3 s_3 => ?_)
  have ge_3 := S.le e_3
  have S := S.trans s_3
  have hb_3 : Has w_3 b_3 ([.int .i64 o.box, .int .i64 o.kind, .int .i64 o.a, .int .i64 o.b]) _ := hb_3
  refine RL.ev (.assign rfl) rfl rfl ?_
  refine RL.alloc ze39 rfl rfl (fun b_5 w_5 e_5 z_5 hb_5 s_5 => ?_)
  have ge_5 := S.le e_5
  have n_3__5 := hb_3.ne e_5
  have S := S.trans s_5
  have hb_3 := hb_3.sub s_5
  refine RL.nil (RC.back ?_)
  refine RC.seq ?_
  refine RC.region rfl ?_
  refine RL.ev (.move rfl) rfl rfl ?_
  refine RL.ev (.len sl23 rfl) rfl rfl ?_
  refine RL.ev (.assign rfl) rfl rfl ?_
  refine RL.nil (RC.back ?_)
  refine RC.seq ?_
  refine RC.seq ?_
  refine RC.region rfl ?_
  refine RL.ev (.field0 fo34_1 rfl) rfl rfl ?_
  refine RL.ev (.load1 sh3 rfl (hb_3.cell rfl)) rfl rfl ?_
  refine RL.nil (RC.back ?_)
  refine RC.block ?_
  refine RC.seq ?_
  refine RC.region rfl ?_
  refine RL.ev (.bin rfl rfl rfl) rfl rfl ?_
  refine RL.ev (.assign rfl) rfl rfl ?_
  refine RL.nil (RC.back ?_)
  refine RC.cond_dec rfl (fun h1 => ?_) (fun h1 => ?_)
  ·
    have k11 := h1
    refine RC.seq ?_
    refine RC.region rfl ?_
    refine RL.ev (.move rfl) rfl rfl ?_
    refine RL.ev (.move rfl) rfl rfl ?_
    refine RL.ev (.buildS ze39 pl39 rfl rfl) rfl rfl ?_
    refine RL.ev (.assign rfl) rfl rfl ?_
    refine RL.store sh39 rfl rfl rfl hb_5 (by exact Nat.le_of_ble_eq_true rfl) (by rfl) rfl (fun w2 z2 hb_5 a2 => ?_)
    have S := S.upd a2 ge_5
    have hb_3 := hb_3.upd a2 n_3__5
    have hb_5 : Has w2 b_5 ([.int .i64 0, .int .i64 (l.length : Int), .int .i64 0]) _ := hb_5.now (by kernel_rfl)
    refine RL.nil (RC.back ?_)
    refine RC.done (rs := [.tmp 4, .cell 5 39]) (vs := [_, _]) rfl rfl ⟨rfl, ⟨_, rfl, .inr ⟨[.int .i64 0, .int .i64 (l.length : Int), .int .i64 0], sh39, hb_5.row, rfl⟩⟩, trivial⟩ ?_
    -- end 1
    have he : rowM l o = (l, ⟨0, l.length, 0⟩) := (by rw [rowM, if_pos k11])
    rw [he]
    exact ⟨S, _, _, M, rfl, hc, hF.sub S, Up.refl _ _⟩
  ·
    have n11 := h1
    refine RC.seq ?_
    refine RC.seq ?_
    refine RC.region rfl ?_
    refine RL.ev (.bin rfl rfl rfl) rfl rfl ?_
    refine RL.ev (.assign rfl) rfl rfl ?_
    refine RL.nil (RC.back ?_)
    refine RC.cond_dec rfl (fun h3 => ?_) (fun h3 => ?_)
    ·
      have k16 := h3
      refine RC.skip (RC.back ?_)
      refine RC.cond_dec rfl (fun h4 => ?_) (fun h4 => absurd h3 h4)
      refine RC.seq ?_
      refine RC.seq ?_
      refine RC.region rfl ?_
      refine RL.ev (.move rfl) rfl rfl ?_
      refine RL.ev (.bin rfl rfl rfl) rfl rfl ?_
      refine RL.nil (RC.back ?_)
      refine RC.cond_dec rfl (fun h5 => ?_) (fun h5 => ?_)
      ·
        have k20 := h5
        refine RC.seq ?_
        refine RC.region rfl ?_
        refine RL.ev (.move rfl) rfl rfl ?_
        refine RL.call rfl ok76 (c_full w_5) rfl rfl ?_
        rintro _ w6 ⟨rfl, s7⟩
        have S := S.trans s7
        have hb_3 := hb_3.sub s7
        have hb_5 := hb_5.sub s7
        refine RL.ev (.assign rfl) rfl rfl ?_
        refine RL.store sh39 rfl rfl rfl hb_5 (by exact Nat.le_of_ble_eq_true rfl) (by rfl) rfl (fun w8 z8 hb_5 a8 => ?_)
        have S := S.upd a8 ge_5
        have hb_3 := hb_3.upd a8 n_3__5
        have hb_5 : Has w8 b_5 ([.int .i64 5, .int .i64 0, .int .i64 0]) _ := hb_5.now (by kernel_rfl)
        refine RL.nil (RC.back ?_)
        refine RC.done (rs := [.tmp 4, .cell 5 39]) (vs := [_, _]) rfl rfl ⟨rfl, ⟨_, rfl, .inr ⟨[.int .i64 5, .int .i64 0, .int .i64 0], sh39, hb_5.row, rfl⟩⟩, trivial⟩ ?_
        -- end 2
        have he : rowM l o = (l, ⟨5, 0, 0⟩) := (by rw [rowM, if_neg n11, if_pos (by omega), if_pos (by omega)])
        rw [he]
        exact ⟨S, _, _, M, rfl, hc, hF.sub S, Up.refl _ _⟩
      ·
        have n20 := h5
        refine RC.skip (RC.back ?_)
        refine RC.seq ?_
        refine RC.seq ?_
        refine RC.region rfl ?_
        refine RL.ev (.field0 fo34_1 rfl) rfl rfl ?_
        refine RL.ev (.load1 sh3 rfl (hb_3.cell rfl)) rfl rfl ?_
        refine RL.ev (.bin rfl rfl rfl) rfl rfl ?_
        refine RL.nil (RC.back ?_)
        refine RC.cond_dec rfl (fun h9 => ?_) (fun h9 => ?_)
        ·
          have k25 := h9
          refine RC.seq ?_
          refine RC.drawD (fun k => k = b_5) [5, 8] w_5.heap.size 9 rfl rfl mxo (fun w10 s11 => ?_)
          have hNN : ∀ k, ((k = b_5) ∨ w_5.heap.size ≤ k) → w.heap.size ≤ k := fun k e => e.elim (fun e => e ▸ ge_5) (fun e => Nat.le_trans S.size e)
          have ent_S := S.size
          have hN0 : ∀ k, w_5.heap.size ≤ k → w.heap.size ≤ k := fun k e => Nat.le_trans S.size e
          have ltD_b_3 := hb_3.lt
          have ltD_b_5 := hb_5.lt
          have szD := Nat.le_refl w_5.heap.size
          have S := S.trans s11
          have hb_3 := hb_3.sub s11
          have hb_5 := hb_5.sub s11
          have szD := Nat.le_trans szD s11.size
          refine RD.take 0 rfl (by kernel_rfl) (by kernel_rfl) (by kernel_rfl) (fun w' s' => .move rfl) rfl rfl ?_
          refine RD.take 2 rfl (by kernel_rfl) (by kernel_rfl) (by kernel_rfl) (fun w' s' => .field0 fo34_2 rfl) rfl rfl ?_
          refine RD.take 3 rfl (by kernel_rfl) (by kernel_rfl) (by kernel_rfl) (fun w' s' => .load1 sh2 rfl ((hb_3.step s' (fun e => e.elim (fun e => n_3__5 e) (fun e => Nat.not_le.2 ltD_b_3 e))).cell rfl)) rfl rfl ?_
          refine RD.take 6 rfl (by kernel_rfl) (by kernel_rfl) (by kernel_rfl) (fun w' s' => .buildS ze39 pl39 rfl rfl) rfl rfl ?_
          refine RD.all [1, 4] (by kernel_rfl) rfl (RDs.cons rfl ?_ (RDs.cons rfl ?_ (RDs.nil)))
          ·
            refine RL.call rfl ok78 (c_clip a l.length c hc w10) rfl rfl ?_
            rintro _ w12 ⟨rfl, s13⟩
            have S := S.trans s13
            have hb_3 := hb_3.sub s13
            have hb_5 := hb_5.sub s13
            have szD := Nat.le_trans szD s13.size
            refine RD.back s13.agr ?_
            refine RD.all [4] (by kernel_rfl) rfl (RDs.cons rfl ?_ (RDs.nil))
            refine RL.buildSlice1 sl23 _ ze2 rfl rfl rfl rfl rfl rfl rfl (fun b_30 w_30 e_30 z_30 hb_30 s_30 => ?_)
            have fr_b_30 : w_5.heap.size ≤ b_30 := by rw [e_30]; exact szD
            have ge_30 := S.le e_30
            have n_3__30 := hb_3.ne e_30
            have n_5__30 := hb_5.ne e_30
            have S := S.trans s_30
            have hb_3 := hb_3.sub s_30
            have hb_5 := hb_5.sub s_30
            have szD := Nat.le_trans szD s_30.size
            refine RD.back s_30.agr ?_
            refine RD.all [5] (by kernel_rfl) rfl (RDs.cons rfl ?_ (RDs.nil))
            refine RL.append2 (base := w_5.heap.size) (rows := l.map fun x => [i6 x]) (news := [[i6 o.a]]) sl23 ze2 rfl rfl rfl rfl (.inr ⟨a, by rw [List.length_map], hl.sub S, fun r hr => by obtain ⟨z, _, rfl⟩ := List.mem_map.1 hr; rfl⟩) (Has.slOne hb_30) rfl (fun r hr => by rw [List.mem_singleton.1 hr]; rfl) rfl (by rw [List.length_map]; omega) (by rw [List.length_map]; omega) szD rfl rfl (fun v31 w14 hc31 ho31 ag31 ob31 => ?_)
            have o31 := ho31 (.inl (by simp))
            have S := S.agrN ag31 (fun k e => Nat.le_trans ent_S e.2)
            have hb_3 := hb_3.step ag31 (fun e => Nat.not_le.2 ltD_b_3 e.2)
            have hb_5 := hb_5.step ag31 (fun e => Nat.not_le.2 ltD_b_5 e.2)
            have szD := Nat.le_trans szD ag31.size
            obtain ⟨a31, c31, rfl, k31⟩ := o31.form
            have d31_5 := (fun k hk (e : k = b_5) => by have := (o31.ge k hk).1; have := ltD_b_5; omega : ∀ k, _ → k ≠ b_5)
            have d31_3 := (fun k hk (e : k = b_3) => by have := (o31.ge k hk).1; have := ltD_b_3; omega : ∀ k, _ → k ≠ b_3)
            refine RD.backW rfl (ag31.mono fun k _ e => .inr e.2) ?_
            refine RD.take 7 rfl (by kernel_rfl) (by kernel_rfl) (by kernel_rfl) (fun w' s' => .assign rfl) rfl rfl ?_
            refine RD.all [8] (by kernel_rfl) rfl (RDs.cons rfl ?_ (RDs.nil))
            refine RL.store sh39 rfl rfl rfl hb_5 (by exact Nat.le_of_ble_eq_true rfl) (by rfl) rfl (fun w15 z15 hb_5 a15 => ?_)
            have S := S.upd a15 ge_5
            have hb_3 := hb_3.upd a15 n_3__5
            have szD := Nat.le_trans szD a15.size
            have o31 := o31.updD a15 d31_5
            have hb_5 : Has w15 b_5 ([.int .i64 0, .int .i64 0, .int .i64 0]) _ := hb_5.now (by kernel_rfl)
            refine RD.backW rfl (a15.mono fun k _ e => e ▸ (.inl (rfl))) ?_
            refine RD.done (by kernel_rfl) (RC.back ?_)
            refine RC.done (rs := [.tmp 4, .cell 5 39]) (vs := [_, _]) rfl rfl ⟨rfl, ⟨_, rfl, .inr ⟨[.int .i64 0, .int .i64 0, .int .i64 0], sh39, hb_5.row, rfl⟩⟩, trivial⟩ ?_
            -- end 3
            have he : rowM l o = (l ++ [o.a], ⟨0, 0, 0⟩) := (by rw [rowM, if_neg n11, if_pos (by omega), if_neg (by omega), if_pos k25])
            rw [he]
            exact ⟨S, a31, c31, _, by rw [show (l ++ [o.a]).length = ((l.map fun x => [i6 x]) ++ [[i6 o.a]]).length from by simp]; rfl, by have q := k31; simp at q ⊢; omega, (by rw [List.map_append]; exact o31.ft.imp (fun u h => h.sl.1)), fun k hk => .inr (Nat.le_trans ent_S (o31.ge k hk).1)⟩
          ·
            refine RL.buildSlice1 sl23 _ ze2 rfl rfl rfl rfl rfl rfl rfl (fun b_30 w_30 e_30 z_30 hb_30 s_30 => ?_)
            have fr_b_30 : w_5.heap.size ≤ b_30 := by rw [e_30]; exact szD
            have ge_30 := S.le e_30
            have n_3__30 := hb_3.ne e_30
            have n_5__30 := hb_5.ne e_30
            have S := S.trans s_30
            have hb_3 := hb_3.sub s_30
            have hb_5 := hb_5.sub s_30
            have szD := Nat.le_trans szD s_30.size
            refine RD.back s_30.agr ?_
            refine RD.all [1] (by kernel_rfl) rfl (RDs.cons rfl ?_ (RDs.nil))
            refine RL.call rfl ok78 (c_clip a l.length c hc w_30) rfl rfl ?_
            rintro _ w16 ⟨rfl, s17⟩
            have S := S.trans s17
            have hb_3 := hb_3.sub s17
            have hb_5 := hb_5.sub s17
            have szD := Nat.le_trans szD s17.size
            have hb_30 := hb_30.sub s17
            refine RD.back s17.agr ?_
            refine RD.all [5] (by kernel_rfl) rfl (RDs.cons rfl ?_ (RDs.nil))
            refine RL.append2 (base := w_5.heap.size) (rows := l.map fun x => [i6 x]) (news := [[i6 o.a]]) sl23 ze2 rfl rfl rfl rfl (.inr ⟨a, by rw [List.length_map], hl.sub S, fun r hr => by obtain ⟨z, _, rfl⟩ := List.mem_map.1 hr; rfl⟩) (Has.slOne hb_30) rfl (fun r hr => by rw [List.mem_singleton.1 hr]; rfl) rfl (by rw [List.length_map]; omega) (by rw [List.length_map]; omega) szD rfl rfl (fun v31 w18 hc31 ho31 ag31 ob31 => ?_)
            have o31 := ho31 (.inl (by simp))
            have S := S.agrN ag31 (fun k e => Nat.le_trans ent_S e.2)
            have hb_3 := hb_3.step ag31 (fun e => Nat.not_le.2 ltD_b_3 e.2)
            have hb_5 := hb_5.step ag31 (fun e => Nat.not_le.2 ltD_b_5 e.2)
            have szD := Nat.le_trans szD ag31.size
            obtain ⟨a31, c31, rfl, k31⟩ := o31.form
            have d31_5 := (fun k hk (e : k = b_5) => by have := (o31.ge k hk).1; have := ltD_b_5; omega : ∀ k, _ → k ≠ b_5)
            have d31_3 := (fun k hk (e : k = b_3) => by have := (o31.ge k hk).1; have := ltD_b_3; omega : ∀ k, _ → k ≠ b_3)
            refine RD.backW rfl (ag31.mono fun k _ e => .inr e.2) ?_
            refine RD.take 7 rfl (by kernel_rfl) (by kernel_rfl) (by kernel_rfl) (fun w' s' => .assign rfl) rfl rfl ?_
            refine RD.all [8] (by kernel_rfl) rfl (RDs.cons rfl ?_ (RDs.nil))
            refine RL.store sh39 rfl rfl rfl hb_5 (by exact Nat.le_of_ble_eq_true rfl) (by rfl) rfl (fun w19 z19 hb_5 a19 => ?_)
            have S := S.upd a19 ge_5
            have hb_3 := hb_3.upd a19 n_3__5
            have szD := Nat.le_trans szD a19.size
            have o31 := o31.updD a19 d31_5
            have hb_5 : Has w19 b_5 ([.int .i64 0, .int .i64 0, .int .i64 0]) _ := hb_5.now (by kernel_rfl)
            refine RD.backW rfl (a19.mono fun k _ e => e ▸ (.inl (rfl))) ?_
            refine RD.done (by kernel_rfl) (RC.back ?_)
            refine RC.done (rs := [.tmp 4, .cell 5 39]) (vs := [_, _]) rfl rfl ⟨rfl, ⟨_, rfl, .inr ⟨[.int .i64 0, .int .i64 0, .int .i64 0], sh39, hb_5.row, rfl⟩⟩, trivial⟩ ?_
            -- end 4
            have he : rowM l o = (l ++ [o.a], ⟨0, 0, 0⟩) := (by rw [rowM, if_neg n11, if_pos (by omega), if_neg (by omega), if_pos k25])
            rw [he]
            exact ⟨S, a31, c31, _, by rw [show (l ++ [o.a]).length = ((l.map fun x => [i6 x]) ++ [[i6 o.a]]).length from by simp]; rfl, by have q := k31; simp at q ⊢; omega, (by rw [List.map_append]; exact o31.ft.imp (fun u h => h.sl.1)), fun k hk => .inr (Nat.le_trans ent_S (o31.ge k hk).1)⟩
        ·
          have n25 := h9
          refine RC.skip (RC.back ?_)
          refine RC.seq ?_
          refine RC.region rfl ?_
          refine RL.ev (.field0 fo34_2 rfl) rfl rfl ?_
          refine RL.ev (.load1 sh2 rfl (hb_3.cell rfl)) rfl rfl ?_
          refine RL.buildSlice1 sl23 _ ze2 rfl rfl rfl rfl rfl rfl rfl (fun b_35 w_35 e_35 z_35 hb_35 s_35 => ?_)
          have ge_35 := S.le e_35
          have n_3__35 := hb_3.ne e_35
          have n_5__35 := hb_5.ne e_35
          have S := S.trans s_35
          have hb_3 := hb_3.sub s_35
          have hb_5 := hb_5.sub s_35
          refine RL.ev (.move rfl) rfl rfl ?_
          have sz_37 := S.size
          have ltb_3_37 := hb_3.lt
          have ltb_5_37 := hb_5.lt
          have ltb_35_37 := hb_35.lt
          refine RL.append2 (base := w.heap.size) (rows := [[i6 o.a]]) (news := l.map fun x => [i6 x]) sl23 ze2 rfl rfl rfl rfl (.inl (Ows.of_has (rows := [[i6 o.a]]) (extra := []) hb_35 (by simp) (by omega) (Nat.le_refl _) (by decide) rfl)) (hl.sub S) (by (try simp only [List.length_map]); first | done | rfl) (by intro r hr; obtain ⟨x, _, rfl⟩ := List.mem_map.1 hr; rfl) (by rw [List.all_eq_true]; intro r hr; obtain ⟨x, _, rfl⟩ := List.mem_map.1 hr; rfl) (by (try simp only [List.length_map, List.length_nil, List.length_append, List.length_cons]); omega) (by (try simp only [List.length_map, List.length_nil, List.length_append, List.length_cons]); omega) (by omega) rfl rfl (fun v_37 w_37 hc_37 ho_37 ag_37 ob_37 => ?_)
          have o37 := ho_37 (.inr (Ows.of_has (rows := [[i6 o.a]]) (extra := []) hb_35 (by simp) (by omega) (Nat.le_refl _) (by decide) rfl))
          have d_o37_b_3 := obNe ob_37 (fun k hk e => n_3__35.symm ((obLit hk).trans e)) hb_3.lt
          have d_o37_b_5 := obNe ob_37 (fun k hk e => n_5__35.symm ((obLit hk).trans e)) hb_5.lt
          have S := S.agrN ag_37 (fun k e => Nat.le_trans (by omega) e.2)
          have hb_3 := hb_3.step ag_37 (fun e => n_3__35.symm (obLit e.1))
          have hb_5 := hb_5.step ag_37 (fun e => n_5__35.symm (obLit e.1))
          obtain ⟨a_37, c_37, rfl, k_37⟩ := o37.form
          refine RL.ev (.buildS ze39 pl39 rfl rfl) rfl rfl ?_
          refine RL.ev (.assign rfl) rfl rfl ?_
          refine RL.store sh39 rfl rfl rfl hb_5 (by exact Nat.le_of_ble_eq_true rfl) (by rfl) rfl (fun w20 z20 hb_5 a20 => ?_)
          have S := S.upd a20 ge_5
          have hb_3 := hb_3.upd a20 n_3__5
          have o37 := o37.updD a20 d_o37_b_5
          have hb_5 : Has w20 b_5 ([.int .i64 0, .int .i64 0, .int .i64 0]) _ := hb_5.now (by kernel_rfl)
          refine RL.nil (RC.back ?_)
          refine RC.done (rs := [.tmp 4, .cell 5 39]) (vs := [_, _]) rfl rfl ⟨rfl, ⟨_, rfl, .inr ⟨[.int .i64 0, .int .i64 0, .int .i64 0], sh39, hb_5.row, rfl⟩⟩, trivial⟩ ?_
          -- end 5
          exact absurd k16 (by omega)
    ·
      have n16 := h3
      refine RC.region rfl ?_
      refine RL.ev (.bin rfl rfl rfl) rfl rfl ?_
      refine RL.ev (.assign rfl) rfl rfl ?_
      refine RL.nil (RC.back ?_)
      refine RC.cond_dec rfl (fun h21 => ?_) (fun h21 => ?_)
      ·
        have k16 := h21
        refine RC.seq ?_
        refine RC.seq ?_
        refine RC.region rfl ?_
        refine RL.ev (.move rfl) rfl rfl ?_
        refine RL.ev (.bin rfl rfl rfl) rfl rfl ?_
        refine RL.nil (RC.back ?_)
        refine RC.cond_dec rfl (fun h22 => ?_) (fun h22 => ?_)
        ·
          have k20 := h22
          refine RC.seq ?_
          refine RC.region rfl ?_
          refine RL.ev (.move rfl) rfl rfl ?_
          refine RL.call rfl ok76 (c_full w_5) rfl rfl ?_
          rintro _ w23 ⟨rfl, s24⟩
          have S := S.trans s24
          have hb_3 := hb_3.sub s24
          have hb_5 := hb_5.sub s24
          refine RL.ev (.assign rfl) rfl rfl ?_
          refine RL.store sh39 rfl rfl rfl hb_5 (by exact Nat.le_of_ble_eq_true rfl) (by rfl) rfl (fun w25 z25 hb_5 a25 => ?_)
          have S := S.upd a25 ge_5
          have hb_3 := hb_3.upd a25 n_3__5
          have hb_5 : Has w25 b_5 ([.int .i64 5, .int .i64 0, .int .i64 0]) _ := hb_5.now (by kernel_rfl)
          refine RL.nil (RC.back ?_)
          refine RC.done (rs := [.tmp 4, .cell 5 39]) (vs := [_, _]) rfl rfl ⟨rfl, ⟨_, rfl, .inr ⟨[.int .i64 5, .int .i64 0, .int .i64 0], sh39, hb_5.row, rfl⟩⟩, trivial⟩ ?_
          -- end 6
          have he : rowM l o = (l, ⟨5, 0, 0⟩) := (by rw [rowM, if_neg n11, if_pos (by omega), if_pos (by omega)])
          rw [he]
          exact ⟨S, _, _, M, rfl, hc, hF.sub S, Up.refl _ _⟩
        ·
          have n20 := h22
          refine RC.skip (RC.back ?_)
          refine RC.seq ?_
          refine RC.seq ?_
          refine RC.region rfl ?_
          refine RL.ev (.field0 fo34_1 rfl) rfl rfl ?_
          refine RL.ev (.load1 sh3 rfl (hb_3.cell rfl)) rfl rfl ?_
          refine RL.ev (.bin rfl rfl rfl) rfl rfl ?_
          refine RL.nil (RC.back ?_)
          refine RC.cond_dec rfl (fun h26 => ?_) (fun h26 => ?_)
          ·
            have k25 := h26
            refine RC.seq ?_
            refine RC.drawD (fun k => k = b_5) [5, 8] w_5.heap.size 9 rfl rfl mxo (fun w27 s28 => ?_)
            have hNN : ∀ k, ((k = b_5) ∨ w_5.heap.size ≤ k) → w.heap.size ≤ k := fun k e => e.elim (fun e => e ▸ ge_5) (fun e => Nat.le_trans S.size e)
            have ent_S := S.size
            have hN0 : ∀ k, w_5.heap.size ≤ k → w.heap.size ≤ k := fun k e => Nat.le_trans S.size e
            have ltD_b_3 := hb_3.lt
            have ltD_b_5 := hb_5.lt
            have szD := Nat.le_refl w_5.heap.size
            have S := S.trans s28
            have hb_3 := hb_3.sub s28
            have hb_5 := hb_5.sub s28
            have szD := Nat.le_trans szD s28.size
            refine RD.take 0 rfl (by kernel_rfl) (by kernel_rfl) (by kernel_rfl) (fun w' s' => .move rfl) rfl rfl ?_
            refine RD.take 2 rfl (by kernel_rfl) (by kernel_rfl) (by kernel_rfl) (fun w' s' => .field0 fo34_2 rfl) rfl rfl ?_
            refine RD.take 3 rfl (by kernel_rfl) (by kernel_rfl) (by kernel_rfl) (fun w' s' => .load1 sh2 rfl ((hb_3.step s' (fun e => e.elim (fun e => n_3__5 e) (fun e => Nat.not_le.2 ltD_b_3 e))).cell rfl)) rfl rfl ?_
            refine RD.take 6 rfl (by kernel_rfl) (by kernel_rfl) (by kernel_rfl) (fun w' s' => .buildS ze39 pl39 rfl rfl) rfl rfl ?_
            refine RD.all [1, 4] (by kernel_rfl) rfl (RDs.cons rfl ?_ (RDs.cons rfl ?_ (RDs.nil)))
            ·
              refine RL.call rfl ok78 (c_clip a l.length c hc w27) rfl rfl ?_
              rintro _ w29 ⟨rfl, s30⟩
              have S := S.trans s30
              have hb_3 := hb_3.sub s30
              have hb_5 := hb_5.sub s30
              have szD := Nat.le_trans szD s30.size
              refine RD.back s30.agr ?_
              refine RD.all [4] (by kernel_rfl) rfl (RDs.cons rfl ?_ (RDs.nil))
              refine RL.buildSlice1 sl23 _ ze2 rfl rfl rfl rfl rfl rfl rfl (fun b_30 w_30 e_30 z_30 hb_30 s_30 => ?_)
              have fr_b_30 : w_5.heap.size ≤ b_30 := by rw [e_30]; exact szD
              have ge_30 := S.le e_30
              have n_3__30 := hb_3.ne e_30
              have n_5__30 := hb_5.ne e_30
              have S := S.trans s_30
              have hb_3 := hb_3.sub s_30
              have hb_5 := hb_5.sub s_30
              have szD := Nat.le_trans szD s_30.size
              refine RD.back s_30.agr ?_
              refine RD.all [5] (by kernel_rfl) rfl (RDs.cons rfl ?_ (RDs.nil))
              refine RL.append2 (base := w_5.heap.size) (rows := l.map fun x => [i6 x]) (news := [[i6 o.a]]) sl23 ze2 rfl rfl rfl rfl (.inr ⟨a, by rw [List.length_map], hl.sub S, fun r hr => by obtain ⟨z, _, rfl⟩ := List.mem_map.1 hr; rfl⟩) (Has.slOne hb_30) rfl (fun r hr => by rw [List.mem_singleton.1 hr]; rfl) rfl (by rw [List.length_map]; omega) (by rw [List.length_map]; omega) szD rfl rfl (fun v31 w31 hc31 ho31 ag31 ob31 => ?_)
              have o31 := ho31 (.inl (by simp))
              have S := S.agrN ag31 (fun k e => Nat.le_trans ent_S e.2)
              have hb_3 := hb_3.step ag31 (fun e => Nat.not_le.2 ltD_b_3 e.2)
              have hb_5 := hb_5.step ag31 (fun e => Nat.not_le.2 ltD_b_5 e.2)
              have szD := Nat.le_trans szD ag31.size
              obtain ⟨a31, c31, rfl, k31⟩ := o31.form
              have d31_5 := (fun k hk (e : k = b_5) => by have := (o31.ge k hk).1; have := ltD_b_5; omega : ∀ k, _ → k ≠ b_5)
              have d31_3 := (fun k hk (e : k = b_3) => by have := (o31.ge k hk).1; have := ltD_b_3; omega : ∀ k, _ → k ≠ b_3)
              refine RD.backW rfl (ag31.mono fun k _ e => .inr e.2) ?_
              refine RD.take 7 rfl (by kernel_rfl) (by kernel_rfl) (by kernel_rfl) (fun w' s' => .assign rfl) rfl rfl ?_
              refine RD.all [8] (by kernel_rfl) rfl (RDs.cons rfl ?_ (RDs.nil))
              refine RL.store sh39 rfl rfl rfl hb_5 (by exact Nat.le_of_ble_eq_true rfl) (by rfl) rfl (fun w32 z32 hb_5 a32 => ?_)
              have S := S.upd a32 ge_5
              have hb_3 := hb_3.upd a32 n_3__5
              have szD := Nat.le_trans szD a32.size
              have o31 := o31.updD a32 d31_5
              have hb_5 : Has w32 b_5 ([.int .i64 0, .int .i64 0, .int .i64 0]) _ := hb_5.now (by kernel_rfl)
              refine RD.backW rfl (a32.mono fun k _ e => e ▸ (.inl (rfl))) ?_
              refine RD.done (by kernel_rfl) (RC.back ?_)
              refine RC.done (rs := [.tmp 4, .cell 5 39]) (vs := [_, _]) rfl rfl ⟨rfl, ⟨_, rfl, .inr ⟨[.int .i64 0, .int .i64 0, .int .i64 0], sh39, hb_5.row, rfl⟩⟩, trivial⟩ ?_
              -- end 7
              exact absurd k25 (by omega)
            ·
              refine RL.buildSlice1 sl23 _ ze2 rfl rfl rfl rfl rfl rfl rfl (fun b_30 w_30 e_30 z_30 hb_30 s_30 => ?_)
              have fr_b_30 : w_5.heap.size ≤ b_30 := by rw [e_30]; exact szD
              have ge_30 := S.le e_30
              have n_3__30 := hb_3.ne e_30
              have n_5__30 := hb_5.ne e_30
              have S := S.trans s_30
              have hb_3 := hb_3.sub s_30
              have hb_5 := hb_5.sub s_30
              have szD := Nat.le_trans szD s_30.size
              refine RD.back s_30.agr ?_
              refine RD.all [1] (by kernel_rfl) rfl (RDs.cons rfl ?_ (RDs.nil))
              refine RL.call rfl ok78 (c_clip a l.length c hc w_30) rfl rfl ?_
              rintro _ w33 ⟨rfl, s34⟩
              have S := S.trans s34
              have hb_3 := hb_3.sub s34
              have hb_5 := hb_5.sub s34
              have szD := Nat.le_trans szD s34.size
              have hb_30 := hb_30.sub s34
              refine RD.back s34.agr ?_
              refine RD.all [5] (by kernel_rfl) rfl (RDs.cons rfl ?_ (RDs.nil))
              refine RL.append2 (base := w_5.heap.size) (rows := l.map fun x => [i6 x]) (news := [[i6 o.a]]) sl23 ze2 rfl rfl rfl rfl (.inr ⟨a, by rw [List.length_map], hl.sub S, fun r hr => by obtain ⟨z, _, rfl⟩ := List.mem_map.1 hr; rfl⟩) (Has.slOne hb_30) rfl (fun r hr => by rw [List.mem_singleton.1 hr]; rfl) rfl (by rw [List.length_map]; omega) (by rw [List.length_map]; omega) szD rfl rfl (fun v31 w35 hc31 ho31 ag31 ob31 => ?_)
              have o31 := ho31 (.inl (by simp))
              have S := S.agrN ag31 (fun k e => Nat.le_trans ent_S e.2)
              have hb_3 := hb_3.step ag31 (fun e => Nat.not_le.2 ltD_b_3 e.2)
              have hb_5 := hb_5.step ag31 (fun e => Nat.not_le.2 ltD_b_5 e.2)
              have szD := Nat.le_trans szD ag31.size
              obtain ⟨a31, c31, rfl, k31⟩ := o31.form
              have d31_5 := (fun k hk (e : k = b_5) => by have := (o31.ge k hk).1; have := ltD_b_5; omega : ∀ k, _ → k ≠ b_5)
              have d31_3 := (fun k hk (e : k = b_3) => by have := (o31.ge k hk).1; have := ltD_b_3; omega : ∀ k, _ → k ≠ b_3)
              refine RD.backW rfl (ag31.mono fun k _ e => .inr e.2) ?_
              refine RD.take 7 rfl (by kernel_rfl) (by kernel_rfl) (by kernel_rfl) (fun w' s' => .assign rfl) rfl rfl ?_
              refine RD.all [8] (by kernel_rfl) rfl (RDs.cons rfl ?_ (RDs.nil))
              refine RL.store sh39 rfl rfl rfl hb_5 (by exact Nat.le_of_ble_eq_true rfl) (by rfl) rfl (fun w36 z36 hb_5 a36 => ?_)
              have S := S.upd a36 ge_5
              have hb_3 := hb_3.upd a36 n_3__5
              have szD := Nat.le_trans szD a36.size
              have o31 := o31.updD a36 d31_5
              have hb_5 : Has w36 b_5 ([.int .i64 0, .int .i64 0, .int .i64 0]) _ := hb_5.now (by kernel_rfl)
              refine RD.backW rfl (a36.mono fun k _ e => e ▸ (.inl (rfl))) ?_
              refine RD.done (by kernel_rfl) (RC.back ?_)
              refine RC.done (rs := [.tmp 4, .cell 5 39]) (vs := [_, _]) rfl rfl ⟨rfl, ⟨_, rfl, .inr ⟨[.int .i64 0, .int .i64 0, .int .i64 0], sh39, hb_5.row, rfl⟩⟩, trivial⟩ ?_
              -- end 8
              exact absurd k25 (by omega)
          ·
            have n25 := h26
            refine RC.skip (RC.back ?_)
            refine RC.seq ?_
            refine RC.region rfl ?_
            refine RL.ev (.field0 fo34_2 rfl) rfl rfl ?_
            refine RL.ev (.load1 sh2 rfl (hb_3.cell rfl)) rfl rfl ?_
            refine RL.buildSlice1 sl23 _ ze2 rfl rfl rfl rfl rfl rfl rfl (fun b_35 w_35 e_35 z_35 hb_35 s_35 => ?_)
            have ge_35 := S.le e_35
            have n_3__35 := hb_3.ne e_35
            have n_5__35 := hb_5.ne e_35
            have S := S.trans s_35
            have hb_3 := hb_3.sub s_35
            have hb_5 := hb_5.sub s_35
            refine RL.ev (.move rfl) rfl rfl ?_
            have sz_37 := S.size
            have ltb_3_37 := hb_3.lt
            have ltb_5_37 := hb_5.lt
            have ltb_35_37 := hb_35.lt
            refine RL.append2 (base := w.heap.size) (rows := [[i6 o.a]]) (news := l.map fun x => [i6 x]) sl23 ze2 rfl rfl rfl rfl (.inl (Ows.of_has (rows := [[i6 o.a]]) (extra := []) hb_35 (by simp) (by omega) (Nat.le_refl _) (by decide) rfl)) (hl.sub S) (by (try simp only [List.length_map]); first | done | rfl) (by intro r hr; obtain ⟨x, _, rfl⟩ := List.mem_map.1 hr; rfl) (by rw [List.all_eq_true]; intro r hr; obtain ⟨x, _, rfl⟩ := List.mem_map.1 hr; rfl) (by (try simp only [List.length_map, List.length_nil, List.length_append, List.length_cons]); omega) (by (try simp only [List.length_map, List.length_nil, List.length_append, List.length_cons]); omega) (by omega) rfl rfl (fun v_37 w_37 hc_37 ho_37 ag_37 ob_37 => ?_)
            have o37 := ho_37 (.inr (Ows.of_has (rows := [[i6 o.a]]) (extra := []) hb_35 (by simp) (by omega) (Nat.le_refl _) (by decide) rfl))
            have d_o37_b_3 := obNe ob_37 (fun k hk e => n_3__35.symm ((obLit hk).trans e)) hb_3.lt
            have d_o37_b_5 := obNe ob_37 (fun k hk e => n_5__35.symm ((obLit hk).trans e)) hb_5.lt
            have S := S.agrN ag_37 (fun k e => Nat.le_trans (by omega) e.2)
            have hb_3 := hb_3.step ag_37 (fun e => n_3__35.symm (obLit e.1))
            have hb_5 := hb_5.step ag_37 (fun e => n_5__35.symm (obLit e.1))
            obtain ⟨a_37, c_37, rfl, k_37⟩ := o37.form
            refine RL.ev (.buildS ze39 pl39 rfl rfl) rfl rfl ?_
            refine RL.ev (.assign rfl) rfl rfl ?_
            refine RL.store sh39 rfl rfl rfl hb_5 (by exact Nat.le_of_ble_eq_true rfl) (by rfl) rfl (fun w37 z37 hb_5 a37 => ?_)
            have S := S.upd a37 ge_5
            have hb_3 := hb_3.upd a37 n_3__5
            have o37 := o37.updD a37 d_o37_b_5
            have hb_5 : Has w37 b_5 ([.int .i64 0, .int .i64 0, .int .i64 0]) _ := hb_5.now (by kernel_rfl)
            refine RL.nil (RC.back ?_)
            refine RC.done (rs := [.tmp 4, .cell 5 39]) (vs := [_, _]) rfl rfl ⟨rfl, ⟨_, rfl, .inr ⟨[.int .i64 0, .int .i64 0, .int .i64 0], sh39, hb_5.row, rfl⟩⟩, trivial⟩ ?_
            -- end 9
            have he : rowM l o = (o.a :: l, ⟨0, 0, 0⟩) := (by rw [rowM, if_neg n11, if_pos (by omega), if_neg (by omega), if_neg n25])
            rw [he]
            exact ⟨S, a_37, c_37, _, by rw [show (o.a :: l).length = ([[i6 o.a]] ++ (l.map fun x => [i6 x])).length from by simp]; rfl, by have q := k_37; simp at q ⊢; omega, o37.ft.imp (fun u h => h.sl.1), fun k hk => .inr (o37.ge k hk).1⟩
      ·
        have n16 := h21
        refine RC.seq ?_
        refine RC.region rfl ?_
        refine RL.ev (.bin rfl rfl rfl) rfl rfl ?_
        refine RL.ev (.assign rfl) rfl rfl ?_
        refine RL.nil (RC.back ?_)
        refine RC.cond_dec rfl (fun h38 => ?_) (fun h38 => ?_)
        ·
          have k39 := h38
          refine RC.seq ?_
          refine RC.seq ?_
          refine RC.region rfl ?_
          refine RL.ev (.field0 fo34_2 rfl) rfl rfl ?_
          refine RL.ev (.load1 sh2 rfl (hb_3.cell rfl)) rfl rfl ?_
          refine RL.ev (.bin rfl rfl rfl) rfl rfl ?_
          refine RL.ev (.move rfl) rfl rfl ?_
          refine RL.split 44 rfl (fun h39 => ?_) (fun h39 => ?_)
          ·
            have k44 := h39
            refine RL.off rfl rfl ?_
            refine RL.off rfl rfl ?_
            refine RL.off rfl rfl ?_
            refine RL.off rfl rfl ?_
            refine RL.ev (.pick_t rfl rfl) rfl rfl ?_
            refine RL.nil (RC.back ?_)
            refine RC.cond_t rfl ?_
            refine RC.seq ?_
            refine RC.region rfl ?_
            refine RL.ev (.move rfl) rfl rfl ?_
            refine RL.call rfl ok73 (c_none w_5) rfl rfl ?_
            rintro _ w40 ⟨rfl, s41⟩
            have S := S.trans s41
            have hb_3 := hb_3.sub s41
            have hb_5 := hb_5.sub s41
            refine RL.ev (.assign rfl) rfl rfl ?_
            refine RL.store sh39 rfl rfl rfl hb_5 (by exact Nat.le_of_ble_eq_true rfl) (by rfl) rfl (fun w42 z42 hb_5 a42 => ?_)
            have S := S.upd a42 ge_5
            have hb_3 := hb_3.upd a42 n_3__5
            have hb_5 : Has w42 b_5 ([.int .i64 3, .int .i64 0, .int .i64 0]) _ := hb_5.now (by kernel_rfl)
            refine RL.nil (RC.back ?_)
            refine RC.done (rs := [.tmp 4, .cell 5 39]) (vs := [_, _]) rfl rfl ⟨rfl, ⟨_, rfl, .inr ⟨[.int .i64 3, .int .i64 0, .int .i64 0], sh39, hb_5.row, rfl⟩⟩, trivial⟩ ?_
            -- end 10
            have he : rowM l o = (l, ⟨3, 0, 0⟩) := (by rw [rowM, if_neg n11, if_neg (by omega), if_pos (by omega), if_pos (by omega)])
            rw [he]
            exact ⟨S, _, _, M, rfl, hc, hF.sub S, Up.refl _ _⟩
          ·
            have n44 := h39
            refine RL.ev (.field0 fo34_2 rfl) rfl rfl ?_
            refine RL.ev (.load1 sh2 rfl (hb_3.cell rfl)) rfl rfl ?_
            refine RL.ev (.move rfl) rfl rfl ?_
            refine RL.ev (.bin rfl rfl rfl) rfl rfl ?_
            refine RL.ev (.pick_f rfl rfl) rfl rfl ?_
            refine RL.nil (RC.back ?_)
            refine RC.cond_dec rfl (fun h43 => ?_) (fun h43 => ?_)
            ·
              have k49 := h43
              refine RC.seq ?_
              refine RC.region rfl ?_
              refine RL.ev (.move rfl) rfl rfl ?_
              refine RL.call rfl ok73 (c_none w_5) rfl rfl ?_
              rintro _ w44 ⟨rfl, s45⟩
              have S := S.trans s45
              have hb_3 := hb_3.sub s45
              have hb_5 := hb_5.sub s45
              refine RL.ev (.assign rfl) rfl rfl ?_
              refine RL.store sh39 rfl rfl rfl hb_5 (by exact Nat.le_of_ble_eq_true rfl) (by rfl) rfl (fun w46 z46 hb_5 a46 => ?_)
              have S := S.upd a46 ge_5
              have hb_3 := hb_3.upd a46 n_3__5
              have hb_5 : Has w46 b_5 ([.int .i64 3, .int .i64 0, .int .i64 0]) _ := hb_5.now (by kernel_rfl)
              refine RL.nil (RC.back ?_)
              refine RC.done (rs := [.tmp 4, .cell 5 39]) (vs := [_, _]) rfl rfl ⟨rfl, ⟨_, rfl, .inr ⟨[.int .i64 3, .int .i64 0, .int .i64 0], sh39, hb_5.row, rfl⟩⟩, trivial⟩ ?_
              -- end 11
              have he : rowM l o = (l, ⟨3, 0, 0⟩) := (by rw [rowM, if_neg n11, if_neg (by omega), if_pos (by omega), if_pos (by omega)])
              rw [he]
              exact ⟨S, _, _, M, rfl, hc, hF.sub S, Up.refl _ _⟩
            ·
              have n49 := h43
              obtain ⟨x, hx⟩ := getSome (l := l) (i := o.a.toNat) (by omega)
              have hxd := getD_of hx
              refine RC.skip (RC.back ?_)
              refine RC.seq ?_
              refine RC.drawD (fun k => k = b_5) [8] w_5.heap.size 9 rfl rfl mxo (fun w47 s48 => ?_)
              have hNN : ∀ k, ((k = b_5) ∨ w_5.heap.size ≤ k) → w.heap.size ≤ k := fun k e => e.elim (fun e => e ▸ ge_5) (fun e => Nat.le_trans S.size e)
              have ent_S := S.size
              have hN0 : ∀ k, w_5.heap.size ≤ k → w.heap.size ≤ k := fun k e => Nat.le_trans S.size e
              have ltD_b_3 := hb_3.lt
              have ltD_b_5 := hb_5.lt
              have szD := Nat.le_refl w_5.heap.size
              have S := S.trans s48
              have hb_3 := hb_3.sub s48
              have hb_5 := hb_5.sub s48
              have szD := Nat.le_trans szD s48.size
              refine RD.take 0 rfl (by kernel_rfl) (by kernel_rfl) (by kernel_rfl) (fun w' s' => .move rfl) rfl rfl ?_
              refine RD.take 1 rfl (by kernel_rfl) (by kernel_rfl) (by kernel_rfl) (fun w' s' => .move rfl) rfl rfl ?_
              refine RD.take 2 rfl (by kernel_rfl) (by kernel_rfl) (by kernel_rfl) (fun w' s' => .field0 fo34_2 rfl) rfl rfl ?_
              refine RD.take 3 rfl (by kernel_rfl) (by kernel_rfl) (by kernel_rfl) (fun w' s' => .load1 sh2 rfl ((hb_3.step s' (fun e => e.elim (fun e => n_3__5 e) (fun e => Nat.not_le.2 ltD_b_3 e))).cell rfl)) rfl rfl ?_
              refine RD.take 4 rfl (by kernel_rfl) (by kernel_rfl) (by kernel_rfl) (fun w' s' => .indexS sl23 rfl rfl (by omega) (hl.is (i := 0) (by simp only [List.length_map, List.length_cons, List.length_nil]; omega))) rfl rfl ?_
              refine RD.take 5 rfl (by kernel_rfl) (by kernel_rfl) (by kernel_rfl) (fun w' s' => .load1 sh2 rfl ((hl.sub (S.agrN s' hNN)).one (enc := i6) (i := o.a.toNat) hx)) rfl rfl ?_
              refine RD.take 6 rfl (by kernel_rfl) (by kernel_rfl) (by kernel_rfl) (fun w' s' => .buildS ze39 pl39 rfl rfl) rfl rfl ?_
              refine RD.take 7 rfl (by kernel_rfl) (by kernel_rfl) (by kernel_rfl) (fun w' s' => .assign rfl) rfl rfl ?_
              refine RD.all [8] (by kernel_rfl) rfl (RDs.cons rfl ?_ (RDs.nil))
              refine RL.store sh39 rfl rfl rfl hb_5 (by exact Nat.le_of_ble_eq_true rfl) (by rfl) rfl (fun w49 z49 hb_5 a49 => ?_)
              have S := S.upd a49 ge_5
              have hb_3 := hb_3.upd a49 n_3__5
              have szD := Nat.le_trans szD a49.size
              have hb_5 : Has w49 b_5 ([.int .i64 0, .int .i64 x, .int .i64 0]) _ := hb_5.now (by kernel_rfl)
              refine RD.backW rfl (a49.mono fun k _ e => e ▸ (.inl (rfl))) ?_
              refine RD.done (by kernel_rfl) (RC.back ?_)
              refine RC.done (rs := [.tmp 4, .cell 5 39]) (vs := [_, _]) rfl rfl ⟨rfl, ⟨_, rfl, .inr ⟨[.int .i64 0, .int .i64 x, .int .i64 0], sh39, hb_5.row, rfl⟩⟩, trivial⟩ ?_
              -- end 12
              have he : rowM l o = (l, ⟨0, x, 0⟩) := (by rw [rowM, if_neg n11, if_neg (by omega), if_pos (by omega), if_neg (by omega), hxd])
              rw [he]
              exact ⟨S, _, _, M, rfl, hc, hF.sub S, Up.refl _ _⟩
        ·
          have n39 := h38
          refine RC.skip (RC.back ?_)
          refine RC.seq ?_
          refine RC.block ?_
          refine RC.seq ?_
          refine RC.region rfl ?_
          refine RL.ev (.move rfl) rfl rfl ?_
          refine RL.ev (.bin rfl rfl rfl) rfl rfl ?_
          refine RL.ev (.assign rfl) rfl rfl ?_
          refine RL.nil (RC.back ?_)
          refine RC.cond_dec rfl (fun h50 => ?_) (fun h50 => ?_)
          ·
            have k59 : l.length = 0 := (by omega)
            refine RC.seq ?_
            refine RC.region rfl ?_
            refine RL.ev (.move rfl) rfl rfl ?_
            refine RL.call rfl ok73 (c_none w_5) rfl rfl ?_
            rintro _ w51 ⟨rfl, s52⟩
            have S := S.trans s52
            have hb_3 := hb_3.sub s52
            have hb_5 := hb_5.sub s52
            refine RL.ev (.assign rfl) rfl rfl ?_
            refine RL.store sh39 rfl rfl rfl hb_5 (by exact Nat.le_of_ble_eq_true rfl) (by rfl) rfl (fun w53 z53 hb_5 a53 => ?_)
            have S := S.upd a53 ge_5
            have hb_3 := hb_3.upd a53 n_3__5
            have hb_5 : Has w53 b_5 ([.int .i64 3, .int .i64 0, .int .i64 0]) _ := hb_5.now (by kernel_rfl)
            refine RL.nil (RC.back ?_)
            refine RC.done (rs := [.tmp 4, .cell 5 39]) (vs := [_, _]) rfl rfl ⟨rfl, ⟨_, rfl, .inr ⟨[.int .i64 3, .int .i64 0, .int .i64 0], sh39, hb_5.row, rfl⟩⟩, trivial⟩ ?_
            -- end 13
            have he : rowM l o = (l, ⟨3, 0, 0⟩) := (by rw [rowM, if_neg n11, if_neg (by omega), if_neg n39, if_pos k59])
            rw [he]
            exact ⟨S, _, _, M, rfl, hc, hF.sub S, Up.refl _ _⟩
          ·
            have n59 : 0 < l.length := (by omega)
            obtain ⟨x, hx⟩ := getSome (l := l) (i := l.length - 1) (by omega)
            have hxd := getD_of hx
            obtain ⟨y, hy⟩ := getSome (l := l) (i := 0) n59
            have hyd := getD_of hy
            refine RC.seq ?_
            refine RC.region rfl ?_
            refine RL.ev (.field0 fo34_1 rfl) rfl rfl ?_
            refine RL.ev (.load1 sh3 rfl (hb_3.cell rfl)) rfl rfl ?_
            refine RL.ev (.bin rfl rfl rfl) rfl rfl ?_
            refine RL.ev (.assign rfl) rfl rfl ?_
            refine RL.nil (RC.back ?_)
            refine RC.cond_dec rfl (fun h54 => ?_) (fun h54 => ?_)
            ·
              have k64 := h54
              refine RC.seq ?_
              refine RC.drawD (fun k => k = b_5) [11] w_5.heap.size 12 rfl rfl mxo (fun w55 s56 => ?_)
              have hNN : ∀ k, ((k = b_5) ∨ w_5.heap.size ≤ k) → w.heap.size ≤ k := fun k e => e.elim (fun e => e ▸ ge_5) (fun e => Nat.le_trans S.size e)
              have ent_S := S.size
              have hN0 : ∀ k, w_5.heap.size ≤ k → w.heap.size ≤ k := fun k e => Nat.le_trans S.size e
              have ltD_b_3 := hb_3.lt
              have ltD_b_5 := hb_5.lt
              have szD := Nat.le_refl w_5.heap.size
              have S := S.trans s56
              have hb_3 := hb_3.sub s56
              have hb_5 := hb_5.sub s56
              have szD := Nat.le_trans szD s56.size
              refine RD.take 0 rfl (by kernel_rfl) (by kernel_rfl) (by kernel_rfl) (fun w' s' => .move rfl) rfl rfl ?_
              refine RD.take 1 rfl (by kernel_rfl) (by kernel_rfl) (by kernel_rfl) (fun w' s' => .move rfl) rfl rfl ?_
              refine RD.take 2 rfl (by kernel_rfl) (by kernel_rfl) (by kernel_rfl) (fun w' s' => .as (.bin rfl rfl rfl) (wi64 (y := ((l.length - 1 : Nat) : Int)) (by omega) (by omega))) rfl rfl ?_
              refine RD.take 3 rfl (by kernel_rfl) (by kernel_rfl) (by kernel_rfl) (fun w' s' => .sliceHi sl23 rfl rfl (by omega)) rfl rfl ?_
              refine RD.take 4 rfl (by kernel_rfl) (by kernel_rfl) (by kernel_rfl) (fun w' s' => .move rfl) rfl rfl ?_
              refine RD.take 5 rfl (by kernel_rfl) (by kernel_rfl) (by kernel_rfl) (fun w' s' => .move rfl) rfl rfl ?_
              refine RD.take 6 rfl (by kernel_rfl) (by kernel_rfl) (by kernel_rfl) (fun w' s' => .as (.bin rfl rfl rfl) (wi64 (y := ((l.length - 1 : Nat) : Int)) (by omega) (by omega))) rfl rfl ?_
              refine RD.take 7 rfl (by kernel_rfl) (by kernel_rfl) (by kernel_rfl) (fun w' s' => .indexS sl23 rfl rfl (by omega) (hl.is (i := 0) (by simp only [List.length_map, List.length_cons, List.length_nil]; omega))) rfl rfl ?_
              refine RD.take 8 rfl (by kernel_rfl) (by kernel_rfl) (by kernel_rfl) (fun w' s' => .load1 sh2 rfl ((hl.sub (S.agrN s' hNN)).one (enc := i6) (i := l.length - 1) hx)) rfl rfl ?_
              refine RD.take 9 rfl (by kernel_rfl) (by kernel_rfl) (by kernel_rfl) (fun w' s' => .buildS ze39 pl39 rfl rfl) rfl rfl ?_
              refine RD.take 10 rfl (by kernel_rfl) (by kernel_rfl) (by kernel_rfl) (fun w' s' => .assign rfl) rfl rfl ?_
              refine RD.all [11] (by kernel_rfl) rfl (RDs.cons rfl ?_ (RDs.nil))
              refine RL.store sh39 rfl rfl rfl hb_5 (by exact Nat.le_of_ble_eq_true rfl) (by rfl) rfl (fun w57 z57 hb_5 a57 => ?_)
              have S := S.upd a57 ge_5
              have hb_3 := hb_3.upd a57 n_3__5
              have szD := Nat.le_trans szD a57.size
              have hb_5 : Has w57 b_5 ([.int .i64 0, .int .i64 x, .int .i64 0]) _ := hb_5.now (by kernel_rfl)
              refine RD.backW rfl (a57.mono fun k _ e => e ▸ (.inl (rfl))) ?_
              refine RD.done (by kernel_rfl) (RC.back ?_)
              refine RC.done (rs := [.tmp 4, .cell 5 39]) (vs := [_, _]) rfl rfl ⟨rfl, ⟨_, rfl, .inr ⟨[.int .i64 0, .int .i64 x, .int .i64 0], sh39, hb_5.row, rfl⟩⟩, trivial⟩ ?_
              -- end 14
              have he : rowM l o = (l.take (l.length - 1), ⟨0, x, 0⟩) := (by rw [rowM, if_neg n11, if_neg (by omega), if_neg n39, if_neg (by omega), if_pos k64, hxd])
              rw [he]
              exact ⟨S, a, c, M, by rw [show (l.take (l.length - 1)).length = l.length - 1 from by rw [List.length_take]; omega]; rfl, by rw [List.length_take]; omega, (hF.sub S).imp (fun u h => slTakeM h _), Up.refl _ _⟩
            ·
              have n64 := h54
              refine RC.skip (RC.back ?_)
              refine RC.seq ?_
              refine RC.drawD (fun k => k = b_5) [7] w_5.heap.size 8 rfl rfl mxo (fun w58 s59 => ?_)
              have hNN : ∀ k, ((k = b_5) ∨ w_5.heap.size ≤ k) → w.heap.size ≤ k := fun k e => e.elim (fun e => e ▸ ge_5) (fun e => Nat.le_trans S.size e)
              have ent_S := S.size
              have hN0 : ∀ k, w_5.heap.size ≤ k → w.heap.size ≤ k := fun k e => Nat.le_trans S.size e
              have ltD_b_3 := hb_3.lt
              have ltD_b_5 := hb_5.lt
              have szD := Nat.le_refl w_5.heap.size
              have S := S.trans s59
              have hb_3 := hb_3.sub s59
              have hb_5 := hb_5.sub s59
              have szD := Nat.le_trans szD s59.size
              refine RD.take 0 rfl (by kernel_rfl) (by kernel_rfl) (by kernel_rfl) (fun w' s' => .move rfl) rfl rfl ?_
              refine RD.take 1 rfl (by kernel_rfl) (by kernel_rfl) (by kernel_rfl) (fun w' s' => .sliceLo sl23 rfl rfl (by omega)) rfl rfl ?_
              refine RD.take 2 rfl (by kernel_rfl) (by kernel_rfl) (by kernel_rfl) (fun w' s' => .move rfl) rfl rfl ?_
              refine RD.take 3 rfl (by kernel_rfl) (by kernel_rfl) (by kernel_rfl) (fun w' s' => .indexS sl23 rfl rfl (by omega) (hl.is (i := 0) (by simp only [List.length_map, List.length_cons, List.length_nil]; omega))) rfl rfl ?_
              refine RD.take 4 rfl (by kernel_rfl) (by kernel_rfl) (by kernel_rfl) (fun w' s' => .load1 sh2 rfl ((hl.sub (S.agrN s' hNN)).one (enc := i6) (i := 0) hy)) rfl rfl ?_
              refine RD.take 5 rfl (by kernel_rfl) (by kernel_rfl) (by kernel_rfl) (fun w' s' => .buildS ze39 pl39 rfl rfl) rfl rfl ?_
              refine RD.take 6 rfl (by kernel_rfl) (by kernel_rfl) (by kernel_rfl) (fun w' s' => .assign rfl) rfl rfl ?_
              refine RD.all [7] (by kernel_rfl) rfl (RDs.cons rfl ?_ (RDs.nil))
              refine RL.store sh39 rfl rfl rfl hb_5 (by exact Nat.le_of_ble_eq_true rfl) (by rfl) rfl (fun w60 z60 hb_5 a60 => ?_)
              have S := S.upd a60 ge_5
              have hb_3 := hb_3.upd a60 n_3__5
              have szD := Nat.le_trans szD a60.size
              have hb_5 : Has w60 b_5 ([.int .i64 0, .int .i64 y, .int .i64 0]) _ := hb_5.now (by kernel_rfl)
              refine RD.backW rfl (a60.mono fun k _ e => e ▸ (.inl (rfl))) ?_
              refine RD.done (by kernel_rfl) (RC.back ?_)
              refine RC.done (rs := [.tmp 4, .cell 5 39]) (vs := [_, _]) rfl rfl ⟨rfl, ⟨_, rfl, .inr ⟨[.int .i64 0, .int .i64 y, .int .i64 0], sh39, hb_5.row, rfl⟩⟩, trivial⟩ ?_
              -- end 15
              have he : rowM l o = (l.drop 1, ⟨0, y, 0⟩) := (by rw [rowM, if_neg n11, if_neg (by omega), if_neg n39, if_neg (by omega), if_neg n64, hyd])
              rw [he]
              exact ⟨S, _, _, M, by rw [List.length_drop]; rfl, by rw [List.length_drop]; show _ ≤ c - 1; omega, (hF.sub S).imp (fun u h => slDropM h 1 hc), Up.refl _ _⟩
end Go.Proofs.Ytjafbffehmombaa
