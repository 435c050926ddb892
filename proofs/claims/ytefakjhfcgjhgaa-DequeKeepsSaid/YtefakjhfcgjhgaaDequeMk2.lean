/-
  deque.Pop, Concat, Cut, walked.
-/
import Derived.Test.YtefakjhfcgjhgaaDequeMk
set_option linter.unusedVariables false
set_option linter.unusedSimpArgs false
namespace Go.Proofs.Ytefakjhfcgjhgaa
open Go Go.XL

/-! ### Pop -/
def popL (V : List Int) (back : Bool) : List Int := if back then V.take (V.length - 1) else V.drop 1
def popV (V : List Int) (back : Bool) : Int := if back then V.getD (V.length - 1) 0 else V.getD 0 0
def PopJ (A : Ar) (V : List Int) (back : Bool) (b10 : Nat) (s' : St) (r' e : Int) (u : World) : Prop :=
  ∃ v0, Has u b10 [.int .i64 v0] 2 ∧ I64 v0 ∧ ((V = [] ∧ e = 3 ∧ v0 = 0) ∨ (0 < V.length ∧ e = 0 ∧ Gr V.length (A, 0) s' ∧ (s'.2 = 0 → v0 = popV V back ∧ ∃ M, IsR s'.1 r' (popL V back) M)))
theorem getN_isR {A : Ar} {r v : Int} {P : List Int} (h : IsR A r [v] P) : (getN A r).v = v := by
  have hr : ¬ r = 0 := fun e => by have := (e ▸ h).zero; simp at this
  obtain ⟨x, L, R, P1, P2, hV, _, hx, _⟩ := h.ne hr
  rw [getN_yes hx]
  cases L with
  | nil => simp only [List.nil_append, List.cons.injEq] at hV; exact hV.1.symm
  | cons y L => simp at hV
theorem getN_v64 {A : Ar} {r : Int} (h : ∀ x ∈ A.nodes, x.ok) : I64 (getN A r).v := by
  unfold getN
  cases hg : getA A r with
  | none => exact (show I64 0 by unfold I64; decide)
  | some x => exact (h x (getA_nok hg)).v
theorem last_drop {V : List Int} (h : 0 < V.length) : V.drop (V.length - 1) = [V.getD (V.length - 1) 0] := by
  rw [List.drop_eq_getElem_cons (by omega), List.drop_of_length_le (by omega), List.getD_eq_getElem?_getD, List.getElem?_eq_getElem (by omega)]; rfl
theorem head_take {V : List Int} (h : 0 < V.length) : V.take 1 = [V.getD 0 0] := by
  cases V with
  | nil => simp at h
  | cons a V => rfl
theorem c_end2n (n : Nat) (h : 0 < n) (h2 : n ≤ 1000000) (w : World) : FC Try.prog 45 [.int .i64 (n : Int)] w (Val (.int .i64 ((n - 1 : Nat) : Int)) w) := by
  have := c_end2 (n : Int) (by omega) w
  rwa [show (n : Int) - 1 = ((n - 1 : Nat) : Int) by omega] at this
theorem c_dpop1 (A : Ar) (r : Int) (back : Bool) (hr : U64 r) (V P : List Int) (hA : AOk A) (hV : IsR A r V P) (hl : V.length ≤ 200) (bf b4 b5 b10 : Nat) (C : Nat → Prop) (w : World) (hF : Ft C (Wo bf (A, 0) C) w)
    (m4 : Has w b4 [.int .u64 r] 28) (m5 : Has w b5 [.bool back] 4) (m10 : Has w b10 [.int .i64 0] 2) (hn : ¬ C b10) (n4 : b4 ≠ bf) (n5 : b5 ≠ bf) (n10 : b10 ≠ bf) (n4_10 : b4 ≠ b10) (n5_10 : b5 ≠ b10) :
    FC Try.prog 34 [.pointer (some ⟨bf, 0, none⟩), .pointer (some ⟨b4, 0, none⟩), .pointer (some ⟨b5, 0, none⟩), .pointer (some ⟨b10, 0, none⟩)] w (fun u w2 => ∃ s' r' e C', u = .tuple #[.int .u64 r', .int .i64 e] ∧ U64 r' ∧ Ft C' (Wo bf s' C') w2 ∧ Agr (fun k => k = bf ∨ k = b10) w w2 ∧ Up C w C' ∧ Ft (· = b10) (PopJ A V back b10 s' r' e) w2) := by
  have hCb := hF.now.1
  cases back
  ·
    refine FC.intro Try.func34 rfl Try.ntmps34 rfl ?_
    have G : Agr (fun k => k = bf ∨ k = b10) w w := Agr.refl _ _
    have hFb10 : ∀ k, C k → k ≠ b10 := (fun k hk e => hn (e ▸ hk))
    refine RC.seq ?_
    refine RC.region rfl ?_
    refine RL.ev (.assign rfl) rfl rfl ?_
    refine RL.ev (.assign rfl) rfl rfl ?_
    refine RL.nil (RC.back ?_)
    refine RC.seq ?_
    refine RC.seq ?_
    refine RC.region rfl ?_
    refine RL.ev (.load1 sh28 rfl (m4.cell rfl)) rfl rfl ?_
    refine RL.ev (.bin rfl rfl rfl) rfl rfl ?_
    refine RL.nil (RC.back ?_)
    refine RC.cond_dec rfl (fun h1 => ?_) (fun h1 => ?_)
    ·
      have hr0 : r = 0 := h1
      obtain ⟨hV0, _⟩ := (hr0 ▸ hV).zero
      refine RC.seq ?_
      refine RC.region rfl ?_
      refine RL.ev (.assign rfl) rfl rfl ?_
      refine RL.ev (.assign rfl) rfl rfl ?_
      refine RL.nil (RC.back ?_)
      refine RC.done (rs := [.tmp 5, .tmp 6]) (vs := [_, _]) rfl rfl ⟨rfl, rfl, trivial⟩ ?_
      -- end 1
      exact ⟨(A, 0), 0, 3, C, rfl, zu0, hF, G, Up.refl _ _, ⟨fun k e => e ▸ m10.lt, fun u a => ⟨0, m10.step a (fun h => h rfl), by unfold I64; decide, .inl ⟨hV0, rfl, rfl⟩⟩⟩⟩
    ·
      have hr0 : ¬ r = 0 := h1
      have hpos := hV.pos hr0
      refine RC.skip (RC.back ?_)
      refine RC.seq ?_
      refine RC.region rfl ?_
      refine RL.ev (.load1 sh4 rfl (m5.cell rfl)) rfl rfl ?_
      refine RL.call rfl ok31 (c_ends false w) rfl rfl ?_
      rintro _ w2 ⟨rfl, s3⟩
      have G := G.trans s3.agr
      have hF := hF.sub s3
      have m4 := m4.sub s3
      have m5 := m5.sub s3
      have m10 := m10.sub s3
      refine RL.alloc ze79 rfl rfl (fun b_7 w_7 e_7 z_7 hb_7 s_7 => ?_)
      have n4__7 := m4.ne e_7
      have n5__7 := m5.ne e_7
      have n10__7 := m10.ne e_7
      have d_hF_b_7 := hF.neNew e_7
      have geG_7 := agLe G e_7
      have G := G.trans s_7.agr
      have hF := hF.sub s_7
      have m4 := m4.sub s_7
      have m5 := m5.sub s_7
      have m10 := m10.sub s_7
      have n7f : b_7 ≠ bf := fun e => d_hF_b_7 bf hCb e.symm
      refine RL.store sh79 rfl rfl rfl hb_7 (by exact Nat.le_of_ble_eq_true rfl) (by rfl) rfl (fun w4 z4 hb_7 a4 => ?_)
      have G := agNew G a4 geG_7
      have hF := hF.updD a4 d_hF_b_7
      have m4 := m4.upd a4 n4__7
      have m5 := m5.upd a4 n5__7
      have m10 := m10.upd a4 n10__7
      have hb_7 : Has w4 b_7 (endC false) 79 := hb_7
      refine RL.nil (RC.back ?_)
      refine RC.seq ?_
      refine RC.drawD (fun k => k = bf) [11] w4.heap.size 20 rfl rfl mxo (fun w5 s6 => ?_)
      have ltD_hF := fun k hk => (hF.ge k hk).2
      have ltD_b4 := m4.lt
      have ltD_b5 := m5.lt
      have ltD_b10 := m10.lt
      have ltD_b_7 := hb_7.lt
      have szD := Nat.le_refl w4.heap.size
      have G := G.trans s6.agr
      have hF := hF.sub s6
      have m4 := m4.sub s6
      have m5 := m5.sub s6
      have m10 := m10.sub s6
      have hb_7 := hb_7.sub s6
      have szD := Nat.le_trans szD s6.size
      refine RD.take 0 rfl (by kernel_rfl) (by kernel_rfl) (by kernel_rfl) (fun w' s' => .field0 fo79_2 rfl) rfl rfl ?_
      refine RD.take 1 rfl (by kernel_rfl) (by kernel_rfl) (by kernel_rfl) (fun w' s' => .load1 sh77 rfl ((hb_7.step s' (fun e => e.elim (fun e => n7f e) (fun e => Nat.not_le.2 ltD_b_7 e))).cell rfl)) rfl rfl ?_
      refine RD.take 2 rfl (by kernel_rfl) (by kernel_rfl) (by kernel_rfl) (fun w' s' => .move rfl) rfl rfl ?_
      refine RD.take 3 rfl (by kernel_rfl) (by kernel_rfl) (by kernel_rfl) (fun w' s' => .load1 sh28 rfl ((m4.step s' (fun e => e.elim (fun e => n4 e) (fun e => Nat.not_le.2 ltD_b4 e))).cell rfl)) rfl rfl ?_
      refine RD.take 4 rfl (by kernel_rfl) (by kernel_rfl) (by kernel_rfl) (fun w' s' => .field0 fo79_1 rfl) rfl rfl ?_
      refine RD.take 5 rfl (by kernel_rfl) (by kernel_rfl) (by kernel_rfl) (fun w' s' => .load1 sh76 rfl ((hb_7.step s' (fun e => e.elim (fun e => n7f e) (fun e => Nat.not_le.2 ltD_b_7 e))).cell rfl)) rfl rfl ?_
      refine RD.take 6 rfl (by kernel_rfl) (by kernel_rfl) (by kernel_rfl) (fun w' s' => .move rfl) rfl rfl ?_
      refine RD.take 7 rfl (by kernel_rfl) (by kernel_rfl) (by kernel_rfl) (fun w' s' => .load1 sh28 rfl ((m4.step s' (fun e => e.elim (fun e => n4 e) (fun e => Nat.not_le.2 ltD_b4 e))).cell rfl)) rfl rfl ?_
      refine RD.all [8] (by kernel_rfl) rfl (RDs.cons rfl ?_ (RDs.nil))
      refine RL.call rfl ok30 (c_wget bf (A, 0) C r hr w5 hF) rfl rfl ?_
      rintro _ w7 ⟨rfl, s8⟩
      have G := G.trans s8.agr
      have hF := hF.sub s8
      have m4 := m4.sub s8
      have m5 := m5.sub s8
      have m10 := m10.sub s8
      have hb_7 := hb_7.sub s8
      have szD := Nat.le_trans szD s8.size
      refine RD.back s8.agr ?_
      refine RD.take 9 rfl (by kernel_rfl) (by kernel_rfl) (by kernel_rfl) (fun w' s' => .as (v' := .int .i64 (V.length : Int)) (.fieldV Try.underlying73 rfl sh2 rfl rfl) (by show Value.int .i64 (getN A r).s = _; rw [getN_s, hV.size])) rfl rfl ?_
      refine RD.all [10] (by kernel_rfl) rfl (RDs.cons rfl ?_ (RDs.nil))
      refine RL.callv rfl rfl (us := []) (cs := []) ok48 (c_end5 (V.length : Int) w7) rfl rfl ?_
      rintro _ w9 ⟨rfl, s10⟩
      have G := G.trans s10.agr
      have hF := hF.sub s10
      have m4 := m4.sub s10
      have m5 := m5.sub s10
      have m10 := m10.sub s10
      have hb_7 := hb_7.sub s10
      have szD := Nat.le_trans szD s10.size
      refine RD.back s10.agr ?_
      refine RD.all [11] (by kernel_rfl) rfl (RDs.cons rfl ?_ (RDs.nil))
      refine RL.call rfl ok35 (c_wcut bf A hA hV 1 (A, 0) C w9 (by omega) (by omega) (Ext.refl _) (fun _ h => h) hA hr hF) rfl rfl ?_
      rintro _ w11 ⟨s1, C1, hg, ⟨r1, r2, rfl, hu1, hu2, hi⟩, hF1, ag, up⟩
      have dF1 : ∀ k, C1 k → k ≠ b10 := fun k hk e => up.not m10.lt hn (e ▸ hk)
      have up := up.le G.size
      have G := G.trans (ag.mono fun k _ e => .inl e)
      have m10 := m10.step ag n10
      have szD := Nat.le_trans szD ag.size
      refine RD.backW rfl (ag.mono fun k _ e => .inl e) ?_
      refine RD.take 12 rfl (by kernel_rfl) (by kernel_rfl) (by kernel_rfl) (fun w' s' => .extract rfl rfl) rfl rfl ?_
      refine RD.take 13 rfl (by kernel_rfl) (by kernel_rfl) (by kernel_rfl) (fun w' s' => .extract rfl rfl) rfl rfl ?_
      refine RD.all [14] (by kernel_rfl) rfl (RDs.cons rfl ?_ (RDs.nil))
      refine RL.callv rfl rfl (us := []) (cs := []) ok49 (c_end6 r1 r2 w11) rfl rfl ?_
      rintro _ w13 ⟨rfl, s14⟩
      have G := G.trans s14.agr
      have m10 := m10.sub s14
      have szD := Nat.le_trans szD s14.size
      have hF1 := hF1.sub s14
      refine RD.back s14.agr ?_
      refine RD.take 15 rfl (by kernel_rfl) (by kernel_rfl) (by kernel_rfl) (fun w' s' => .move rfl) rfl rfl ?_
      refine RD.take 16 rfl (by kernel_rfl) (by kernel_rfl) (by kernel_rfl) (fun w' s' => .extract rfl rfl) rfl rfl ?_
      refine RD.take 17 rfl (by kernel_rfl) (by kernel_rfl) (by kernel_rfl) (fun w' s' => .extract rfl rfl) rfl rfl ?_
      refine RD.take 18 rfl (by kernel_rfl) (by kernel_rfl) (by kernel_rfl) (fun w' s' => .assign rfl) rfl rfl ?_
      refine RD.take 19 rfl (by kernel_rfl) (by kernel_rfl) (by kernel_rfl) (fun w' s' => .assign rfl) rfl rfl ?_
      refine RD.done (by kernel_rfl) (RC.back ?_)
      refine RC.seq ?_
      refine RC.region rfl ?_
      refine RL.ev (.move rfl) rfl rfl ?_
      refine RL.ev (.move rfl) rfl rfl ?_
      refine RL.call rfl ok30 (c_wget bf s1 C1 r1 hu1 w13 hF1) rfl rfl ?_
      rintro _ w15 ⟨rfl, s16⟩
      have G := G.trans s16.agr
      have m10 := m10.sub s16
      have hF1 := hF1.sub s16
      refine RL.ev (.fieldV Try.underlying73 rfl sh2 rfl rfl) rfl rfl ?_
      refine RL.store sh2 rfl rfl rfl m10 (by exact Nat.le_of_ble_eq_true rfl) (by rfl) rfl (fun w17 z17 m10 a17 => ?_)
      have G := G.trans (a17.mono fun k _ e => .inr (e))
      have hF1 := hF1.updD a17 dF1
      have m10 : Has w17 b10 ([.int .i64 (getN s1.1 r1).v]) _ := m10
      refine RL.nil (RC.back ?_)
      refine RC.seq ?_
      refine RC.region rfl ?_
      refine RL.ev (.move rfl) rfl rfl ?_
      refine RL.ev (.assign rfl) rfl rfl ?_
      refine RL.ev (.assign rfl) rfl rfl ?_
      refine RL.nil (RC.back ?_)
      refine RC.done (rs := [.tmp 5, .tmp 6]) (vs := [_, _]) rfl rfl ⟨rfl, rfl, trivial⟩ ?_
      -- end 2
      have hv64 : I64 (getN s1.1 r1).v := getN_v64 hF1.now.nok
      refine ⟨s1, r2, 0, C1, rfl, hu2, hF1, G, up, ⟨fun k e => e ▸ m10.lt, fun u a => ⟨_, m10.step a (fun h => h rfl), hv64, .inr ⟨hpos, rfl, hg, fun h => ?_⟩⟩⟩⟩
      obtain ⟨M, N, hM, hN, _⟩ := hi h
      rw [head_take hpos] at hM
      exact ⟨getN_isR hM, N, hN⟩
  ·
    refine FC.intro Try.func34 rfl Try.ntmps34 rfl ?_
    have G : Agr (fun k => k = bf ∨ k = b10) w w := Agr.refl _ _
    have hFb10 : ∀ k, C k → k ≠ b10 := (fun k hk e => hn (e ▸ hk))
    refine RC.seq ?_
    refine RC.region rfl ?_
    refine RL.ev (.assign rfl) rfl rfl ?_
    refine RL.ev (.assign rfl) rfl rfl ?_
    refine RL.nil (RC.back ?_)
    refine RC.seq ?_
    refine RC.seq ?_
    refine RC.region rfl ?_
    refine RL.ev (.load1 sh28 rfl (m4.cell rfl)) rfl rfl ?_
    refine RL.ev (.bin rfl rfl rfl) rfl rfl ?_
    refine RL.nil (RC.back ?_)
    refine RC.cond_dec rfl (fun h1 => ?_) (fun h1 => ?_)
    ·
      have hr0 : r = 0 := h1
      obtain ⟨hV0, _⟩ := (hr0 ▸ hV).zero
      refine RC.seq ?_
      refine RC.region rfl ?_
      refine RL.ev (.assign rfl) rfl rfl ?_
      refine RL.ev (.assign rfl) rfl rfl ?_
      refine RL.nil (RC.back ?_)
      refine RC.done (rs := [.tmp 5, .tmp 6]) (vs := [_, _]) rfl rfl ⟨rfl, rfl, trivial⟩ ?_
      -- end 1
      exact ⟨(A, 0), 0, 3, C, rfl, zu0, hF, G, Up.refl _ _, ⟨fun k e => e ▸ m10.lt, fun u a => ⟨0, m10.step a (fun h => h rfl), by unfold I64; decide, .inl ⟨hV0, rfl, rfl⟩⟩⟩⟩
    ·
      have hr0 : ¬ r = 0 := h1
      have hpos := hV.pos hr0
      refine RC.skip (RC.back ?_)
      refine RC.seq ?_
      refine RC.region rfl ?_
      refine RL.ev (.load1 sh4 rfl (m5.cell rfl)) rfl rfl ?_
      refine RL.call rfl ok31 (c_ends true w) rfl rfl ?_
      rintro _ w2 ⟨rfl, s3⟩
      have G := G.trans s3.agr
      have hF := hF.sub s3
      have m4 := m4.sub s3
      have m5 := m5.sub s3
      have m10 := m10.sub s3
      refine RL.alloc ze79 rfl rfl (fun b_7 w_7 e_7 z_7 hb_7 s_7 => ?_)
      have n4__7 := m4.ne e_7
      have n5__7 := m5.ne e_7
      have n10__7 := m10.ne e_7
      have d_hF_b_7 := hF.neNew e_7
      have geG_7 := agLe G e_7
      have G := G.trans s_7.agr
      have hF := hF.sub s_7
      have m4 := m4.sub s_7
      have m5 := m5.sub s_7
      have m10 := m10.sub s_7
      have n7f : b_7 ≠ bf := fun e => d_hF_b_7 bf hCb e.symm
      refine RL.store sh79 rfl rfl rfl hb_7 (by exact Nat.le_of_ble_eq_true rfl) (by rfl) rfl (fun w4 z4 hb_7 a4 => ?_)
      have G := agNew G a4 geG_7
      have hF := hF.updD a4 d_hF_b_7
      have m4 := m4.upd a4 n4__7
      have m5 := m5.upd a4 n5__7
      have m10 := m10.upd a4 n10__7
      have hb_7 : Has w4 b_7 (endC true) 79 := hb_7
      refine RL.nil (RC.back ?_)
      refine RC.seq ?_
      refine RC.drawD (fun k => k = bf) [11] w4.heap.size 20 rfl rfl mxo (fun w5 s6 => ?_)
      have ltD_hF := fun k hk => (hF.ge k hk).2
      have ltD_b4 := m4.lt
      have ltD_b5 := m5.lt
      have ltD_b10 := m10.lt
      have ltD_b_7 := hb_7.lt
      have szD := Nat.le_refl w4.heap.size
      have G := G.trans s6.agr
      have hF := hF.sub s6
      have m4 := m4.sub s6
      have m5 := m5.sub s6
      have m10 := m10.sub s6
      have hb_7 := hb_7.sub s6
      have szD := Nat.le_trans szD s6.size
      refine RD.take 0 rfl (by kernel_rfl) (by kernel_rfl) (by kernel_rfl) (fun w' s' => .field0 fo79_2 rfl) rfl rfl ?_
      refine RD.take 1 rfl (by kernel_rfl) (by kernel_rfl) (by kernel_rfl) (fun w' s' => .load1 sh77 rfl ((hb_7.step s' (fun e => e.elim (fun e => n7f e) (fun e => Nat.not_le.2 ltD_b_7 e))).cell rfl)) rfl rfl ?_
      refine RD.take 2 rfl (by kernel_rfl) (by kernel_rfl) (by kernel_rfl) (fun w' s' => .move rfl) rfl rfl ?_
      refine RD.take 3 rfl (by kernel_rfl) (by kernel_rfl) (by kernel_rfl) (fun w' s' => .load1 sh28 rfl ((m4.step s' (fun e => e.elim (fun e => n4 e) (fun e => Nat.not_le.2 ltD_b4 e))).cell rfl)) rfl rfl ?_
      refine RD.take 4 rfl (by kernel_rfl) (by kernel_rfl) (by kernel_rfl) (fun w' s' => .field0 fo79_1 rfl) rfl rfl ?_
      refine RD.take 5 rfl (by kernel_rfl) (by kernel_rfl) (by kernel_rfl) (fun w' s' => .load1 sh76 rfl ((hb_7.step s' (fun e => e.elim (fun e => n7f e) (fun e => Nat.not_le.2 ltD_b_7 e))).cell rfl)) rfl rfl ?_
      refine RD.take 6 rfl (by kernel_rfl) (by kernel_rfl) (by kernel_rfl) (fun w' s' => .move rfl) rfl rfl ?_
      refine RD.take 7 rfl (by kernel_rfl) (by kernel_rfl) (by kernel_rfl) (fun w' s' => .load1 sh28 rfl ((m4.step s' (fun e => e.elim (fun e => n4 e) (fun e => Nat.not_le.2 ltD_b4 e))).cell rfl)) rfl rfl ?_
      refine RD.all [8] (by kernel_rfl) rfl (RDs.cons rfl ?_ (RDs.nil))
      refine RL.call rfl ok30 (c_wget bf (A, 0) C r hr w5 hF) rfl rfl ?_
      rintro _ w7 ⟨rfl, s8⟩
      have G := G.trans s8.agr
      have hF := hF.sub s8
      have m4 := m4.sub s8
      have m5 := m5.sub s8
      have m10 := m10.sub s8
      have hb_7 := hb_7.sub s8
      have szD := Nat.le_trans szD s8.size
      refine RD.back s8.agr ?_
      refine RD.take 9 rfl (by kernel_rfl) (by kernel_rfl) (by kernel_rfl) (fun w' s' => .as (v' := .int .i64 (V.length : Int)) (.fieldV Try.underlying73 rfl sh2 rfl rfl) (by show Value.int .i64 (getN A r).s = _; rw [getN_s, hV.size])) rfl rfl ?_
      refine RD.all [10] (by kernel_rfl) rfl (RDs.cons rfl ?_ (RDs.nil))
      refine RL.callv rfl rfl (us := []) (cs := []) ok45 (c_end2n V.length hpos (by omega) w7) rfl rfl ?_
      rintro _ w9 ⟨rfl, s10⟩
      have G := G.trans s10.agr
      have hF := hF.sub s10
      have m4 := m4.sub s10
      have m5 := m5.sub s10
      have m10 := m10.sub s10
      have hb_7 := hb_7.sub s10
      have szD := Nat.le_trans szD s10.size
      refine RD.back s10.agr ?_
      refine RD.all [11] (by kernel_rfl) rfl (RDs.cons rfl ?_ (RDs.nil))
      refine RL.call rfl ok35 (c_wcut bf A hA hV (V.length - 1) (A, 0) C w9 (by omega) (by omega) (Ext.refl _) (fun _ h => h) hA hr hF) rfl rfl ?_
      rintro _ w11 ⟨s1, C1, hg, ⟨r1, r2, rfl, hu1, hu2, hi⟩, hF1, ag, up⟩
      have dF1 : ∀ k, C1 k → k ≠ b10 := fun k hk e => up.not m10.lt hn (e ▸ hk)
      have up := up.le G.size
      have G := G.trans (ag.mono fun k _ e => .inl e)
      have m10 := m10.step ag n10
      have szD := Nat.le_trans szD ag.size
      refine RD.backW rfl (ag.mono fun k _ e => .inl e) ?_
      refine RD.take 12 rfl (by kernel_rfl) (by kernel_rfl) (by kernel_rfl) (fun w' s' => .extract rfl rfl) rfl rfl ?_
      refine RD.take 13 rfl (by kernel_rfl) (by kernel_rfl) (by kernel_rfl) (fun w' s' => .extract rfl rfl) rfl rfl ?_
      refine RD.all [14] (by kernel_rfl) rfl (RDs.cons rfl ?_ (RDs.nil))
      refine RL.callv rfl rfl (us := []) (cs := []) ok46 (c_end3 r1 r2 w11) rfl rfl ?_
      rintro _ w13 ⟨rfl, s14⟩
      have G := G.trans s14.agr
      have m10 := m10.sub s14
      have szD := Nat.le_trans szD s14.size
      have hF1 := hF1.sub s14
      refine RD.back s14.agr ?_
      refine RD.take 15 rfl (by kernel_rfl) (by kernel_rfl) (by kernel_rfl) (fun w' s' => .move rfl) rfl rfl ?_
      refine RD.take 16 rfl (by kernel_rfl) (by kernel_rfl) (by kernel_rfl) (fun w' s' => .extract rfl rfl) rfl rfl ?_
      refine RD.take 17 rfl (by kernel_rfl) (by kernel_rfl) (by kernel_rfl) (fun w' s' => .extract rfl rfl) rfl rfl ?_
      refine RD.take 18 rfl (by kernel_rfl) (by kernel_rfl) (by kernel_rfl) (fun w' s' => .assign rfl) rfl rfl ?_
      refine RD.take 19 rfl (by kernel_rfl) (by kernel_rfl) (by kernel_rfl) (fun w' s' => .assign rfl) rfl rfl ?_
      refine RD.done (by kernel_rfl) (RC.back ?_)
      refine RC.seq ?_
      refine RC.region rfl ?_
      refine RL.ev (.move rfl) rfl rfl ?_
      refine RL.ev (.move rfl) rfl rfl ?_
      refine RL.call rfl ok30 (c_wget bf s1 C1 r2 hu2 w13 hF1) rfl rfl ?_
      rintro _ w15 ⟨rfl, s16⟩
      have G := G.trans s16.agr
      have m10 := m10.sub s16
      have hF1 := hF1.sub s16
      refine RL.ev (.fieldV Try.underlying73 rfl sh2 rfl rfl) rfl rfl ?_
      refine RL.store sh2 rfl rfl rfl m10 (by exact Nat.le_of_ble_eq_true rfl) (by rfl) rfl (fun w17 z17 m10 a17 => ?_)
      have G := G.trans (a17.mono fun k _ e => .inr (e))
      have hF1 := hF1.updD a17 dF1
      have m10 : Has w17 b10 ([.int .i64 (getN s1.1 r2).v]) _ := m10
      refine RL.nil (RC.back ?_)
      refine RC.seq ?_
      refine RC.region rfl ?_
      refine RL.ev (.move rfl) rfl rfl ?_
      refine RL.ev (.assign rfl) rfl rfl ?_
      refine RL.ev (.assign rfl) rfl rfl ?_
      refine RL.nil (RC.back ?_)
      refine RC.done (rs := [.tmp 5, .tmp 6]) (vs := [_, _]) rfl rfl ⟨rfl, rfl, trivial⟩ ?_
      -- end 2
      have hv64 : I64 (getN s1.1 r2).v := getN_v64 hF1.now.nok
      refine ⟨s1, r1, 0, C1, rfl, hu1, hF1, G, up, ⟨fun k e => e ▸ m10.lt, fun u a => ⟨_, m10.step a (fun h => h rfl), hv64, .inr ⟨hpos, rfl, hg, fun h => ?_⟩⟩⟩⟩
      obtain ⟨M, N, hM, hN, _⟩ := hi h
      rw [last_drop hpos] at hN
      exact ⟨getN_isR hN, M, hM⟩
def PopP (A : Ar) (r : Int) (back : Bool) (M : Nat → Prop) (w w' : World) (u : Value) : Prop :=
  ∃ na fa nc fc B r1 v e M', u = .tuple #[arV na fa nc fc B, .int .u64 r1, .int .i64 v, .int .i64 e] ∧ U64 r1 ∧ I64 v ∧ B.nodes.length ≤ nc ∧ B.free.length ≤ fc ∧ Ft M' (fun u => ArR u na fa B) w' ∧ Up M w M' ∧
    (¬ isRow A r → e = 1) ∧ (¬ e = 0 → B = ar0 ∧ r1 = 0 ∧ v = 0) ∧ ∀ V P, isRow A r → IsR A r V P → (V = [] ∧ e = 3) ∨ (0 < V.length ∧ e = 2 ∧ A.free.length < V.length) ∨ (0 < V.length ∧ e = 0 ∧ v = popV V back ∧ Ext A B ∧ AOk B ∧ A.free.length ≤ B.free.length + V.length ∧ ∃ M, IsR B r1 (popL V back) M)
theorem pop_form {A B : Ar} {r r1 e : Int} {back : Bool} {b10 : Nat} {w w' : World} {V P : List Int} (hm : isRow A r → IsR A r V P) (m10 : Has w b10 [.int .i64 0] 2) (h : CallR A [r] (PopJ A V back b10) (· = b10) w w' B r1 e) :
    ∃ v, Has w' b10 [.int .i64 v] 2 ∧ I64 v ∧ (¬ isRow A r → e = 1) ∧ (¬ e = 0 → B = ar0 ∧ r1 = 0) ∧ ∀ V P, isRow A r → IsR A r V P → (V = [] ∧ e = 3) ∨ (0 < V.length ∧ e = 2 ∧ A.free.length < V.length) ∨ (0 < V.length ∧ e = 0 ∧ v = popV V back ∧ Ext A B ∧ AOk B ∧ A.free.length ≤ B.free.length + V.length ∧ ∃ M, IsR B r1 (popL V back) M) := by
  rcases h with ⟨h1, h2, h3, h4, hs⟩ | ⟨h1, s', r0, e0, hJ, he, h3, h4⟩
  · exact ⟨0, m10.sub hs, by unfold I64; decide, fun _ => h2, fun _ => ⟨h3, h4⟩, fun V' P' h => absurd h (rows_1no h1)⟩
  · have hmap := rows_1 h1
    obtain ⟨v, hv, hv64, hJ⟩ := hJ.now
    refine ⟨v, hv, hv64, fun h => absurd hmap h, h3, fun V' P' _ hV' => ?_⟩
    obtain ⟨rfl, rfl⟩ := hV'.unique (hm hmap)
    rcases hJ with ⟨hb, h5, _⟩ | ⟨hb, h5, hg, hi⟩
    · exact .inl ⟨hb, by rw [he, h5]; rfl⟩
    · rw [h5, if_pos rfl] at he
      by_cases h0 : s'.2 = 0
      · obtain ⟨rfl, rfl⟩ := h4 (by rw [he, h0])
        obtain ⟨i1, i2⟩ := hi h0
        exact .inr (.inr ⟨hb, by rw [he, h0], i1, hg.gs.ext, hg.gs.ok, hg.gs.free, i2⟩)
      · have := hg.gs.full rfl h0
        exact .inr (.inl ⟨hb, by rw [he, this.1], this.2⟩)
theorem c_dpop (A : Ar) (na fa : Option Addr) (nc fc : Nat) (hnc : A.nodes.length ≤ nc) (hfc : A.free.length ≤ fc) (r : Int) (back : Bool) (hr : U64 r) (M : Nat → Prop) (w : World) (hA : Ft M (fun u => ArR u na fa A) w) :
    FC Try.prog 16 [arV na fa nc fc A, .int .u64 r, .bool back] w (fun u w' => Sub w w' ∧ PopP A r back M w w' u) := by
  obtain ⟨V, P, hm⟩ := rowsL A r
  refine FC.intro Try.func16 rfl Try.ntmps16 rfl ?_
  have S := Sub.refl w
  refine RC.seq ?_
  refine RC.region rfl ?_
  refine RL.box rfl rfl rfl (fun b_3 w_3 e_3 z_3 hb_3 s_3 => ?_)
  have ge_3 := S.le e_3
  have d_hA_b_3 := hA.neNew e_3
  have S := S.trans s_3
  have hA := hA.sub s_3
  have hb_3 : Has w_3 b_3 ([.slice na A.nodes.length nc, .slice fa A.free.length fc]) _ := hb_3
  refine RL.box rfl rfl rfl (fun b_4 w_4 e_4 z_4 hb_4 s_4 => ?_)
  have ge_4 := S.le e_4
  have n_3__4 := hb_3.ne e_4
  have d_hA_b_4 := hA.neNew e_4
  have S := S.trans s_4
  have hA := hA.sub s_4
  have hb_3 := hb_3.sub s_4
  refine RL.box rfl rfl rfl (fun b_5 w_5 e_5 z_5 hb_5 s_5 => ?_)
  have ge_5 := S.le e_5
  have n_3__5 := hb_3.ne e_5
  have n_4__5 := hb_4.ne e_5
  have d_hA_b_5 := hA.neNew e_5
  have S := S.trans s_5
  have hA := hA.sub s_5
  have hb_3 := hb_3.sub s_5
  have hb_4 := hb_4.sub s_5
  refine RL.alloc ze26 rfl rfl (fun b_6 w_6 e_6 z_6 hb_6 s_6 => ?_)
  have ge_6 := S.le e_6
  have n_3__6 := hb_3.ne e_6
  have n_4__6 := hb_4.ne e_6
  have n_5__6 := hb_5.ne e_6
  have d_hA_b_6 := hA.neNew e_6
  have S := S.trans s_6
  have hA := hA.sub s_6
  have hb_3 := hb_3.sub s_6
  have hb_4 := hb_4.sub s_6
  have hb_5 := hb_5.sub s_6
  refine RL.ev (.assign rfl) rfl rfl ?_
  refine RL.ev (.assign rfl) rfl rfl ?_
  refine RL.ev (.assign rfl) rfl rfl ?_
  refine RL.nil (RC.back ?_)
  refine RC.seq ?_
  refine RC.region rfl ?_
  refine RL.alloc ze2 rfl rfl (fun b_10 w_10 e_10 z_10 hb_10 s_10 => ?_)
  have ge_10 := S.le e_10
  have n_3__10 := hb_3.ne e_10
  have n_4__10 := hb_4.ne e_10
  have n_5__10 := hb_5.ne e_10
  have n_6__10 := hb_6.ne e_10
  have d_hA_b_10 := hA.neNew e_10
  have S := S.trans s_10
  have hA := hA.sub s_10
  have hb_3 := hb_3.sub s_10
  have hb_4 := hb_4.sub s_10
  have hb_5 := hb_5.sub s_10
  have hb_6 := hb_6.sub s_10
  refine RL.store sh2 rfl rfl rfl hb_10 (by exact Nat.le_of_ble_eq_true rfl) (by rfl) rfl (fun w1 z1 hb_10 a1 => ?_)
  have S := S.upd a1 ge_10
  have hA := hA.updD a1 d_hA_b_10
  have hb_3 := hb_3.upd a1 n_3__10
  have hb_4 := hb_4.upd a1 n_4__10
  have hb_5 := hb_5.upd a1 n_5__10
  have hb_6 := hb_6.upd a1 n_6__10
  refine RL.nil (RC.back ?_)
  refine RC.seq ?_
  refine RC.region rfl ?_
  refine RL.ev (.loadR ([.slice na A.nodes.length nc, .slice fa A.free.length fc]) sh26 rfl hb_3.row rfl) rfl rfl ?_
  refine RL.ev (.load1 sh28 rfl (hb_4.cell rfl)) rfl rfl ?_
  refine RL.buildSlice1 sl61 _ ze28 rfl rfl rfl rfl rfl rfl rfl (fun b_17 w_17 e_17 z_17 hb_17 s_17 => ?_)
  have ge_17 := S.le e_17
  have n_3__17 := hb_3.ne e_17
  have n_4__17 := hb_4.ne e_17
  have n_5__17 := hb_5.ne e_17
  have n_6__17 := hb_6.ne e_17
  have n_10__17 := hb_10.ne e_17
  have d_hA_b_17 := hA.neNew e_17
  have S := S.trans s_17
  have hA := hA.sub s_17
  have hb_3 := hb_3.sub s_17
  have hb_4 := hb_4.sub s_17
  have hb_5 := hb_5.sub s_17
  have hb_6 := hb_6.sub s_17
  have hb_10 := hb_10.sub s_17
  refine RL.ev (.func (xs := []) (ys := [_, _, _]) rfl rfl) rfl rfl ?_
  refine RL.call rfl ok28 (c_dcall 34 ok34 [.pointer (some ⟨b_4, 0, none⟩), .pointer (some ⟨b_5, 0, none⟩), .pointer (some ⟨b_10, 0, none⟩)] A na fa nc fc hnc hfc [r] (some ⟨b_17, 0, none⟩) 1 1 rfl (Nat.le_of_ble_eq_true rfl) (fun x hx => by rw [List.mem_singleton] at hx; rw [hx]; exact hr) (· = b_10) M (PopJ A V back b_10) w_17 hA (Has.sl1 (enc := u6) (l := [r]) hb_17) (fun k e => e ▸ hb_10.lt) (fun hyes bf C w1 s1 hbf hF hCM => FC.mono (c_dpop1 A r back hr V P (rows_1 hyes).1 (hm (rows_1 hyes)) (isRow_len (rows_1 hyes) (hm (rows_1 hyes))) bf b_4 b_5 b_10 C w1 hF (hb_4.sub s1) (hb_5.sub s1) (hb_10.sub s1) (fun e => (hCM _ e).elim (fun e => by have := hb_10.lt; omega) (fun e => d_hA_b_10 _ e rfl)) (fun e => by have := hb_4.lt; omega) (fun e => by have := hb_5.lt; omega) (fun e => by have := hb_10.lt; omega) n_4__10 n_5__10) (fun u w2 h => h))) rfl rfl ?_
  rintro _ w2 ⟨ag, na', fa', nc', fc', B, r', e, M', rfl, hu, hnc', hfc', hA', hup, hcp⟩
  obtain ⟨v2, hv2, hv64, q1, q2, q3⟩ := pop_form hm hb_10 hcp
  have dB6 : ∀ k, M' k → k ≠ b_6 := (fun k hk e => hup.not hb_6.lt (fun e' => d_hA_b_6 _ e' rfl) (e ▸ hk))
  have dB10 : ∀ k, M' k → k ≠ b_10 := (fun k hk e => hup.not hb_10.lt (fun e' => d_hA_b_10 _ e' rfl) (e ▸ hk))
  have hup := hup.le S.size
  have S := S.agrN ag (fun k e => e ▸ ge_10)
  have hb_3 := hb_3.step ag (fun e => n_3__10 e)
  have hb_4 := hb_4.step ag (fun e => n_4__10 e)
  have hb_5 := hb_5.step ag (fun e => n_5__10 e)
  have hb_6 := hb_6.step ag (fun e => n_6__10 e)
  have hb_17 := hb_17.step ag (fun e => n_10__17.symm e)
  have hb_10 := hv2
  refine RL.ev (.move rfl) rfl rfl ?_
  refine RL.ev (.extract rfl rfl) rfl rfl ?_
  refine RL.ev (.extract rfl rfl) rfl rfl ?_
  refine RL.ev (.extract rfl rfl) rfl rfl ?_
  refine RL.alloc ze26 rfl rfl (fun b_11 w_11 e_11 z_11 hb_11 s_11 => ?_)
  have ge_11 := S.le e_11
  have n_3__11 := hb_3.ne e_11
  have n_4__11 := hb_4.ne e_11
  have n_5__11 := hb_5.ne e_11
  have n_6__11 := hb_6.ne e_11
  have n_17__11 := hb_17.ne e_11
  have n_10__11 := hb_10.ne e_11
  have d_hA'_b_11 := hA'.neNew e_11
  have S := S.trans s_11
  have hb_3 := hb_3.sub s_11
  have hb_4 := hb_4.sub s_11
  have hb_5 := hb_5.sub s_11
  have hb_6 := hb_6.sub s_11
  have hb_17 := hb_17.sub s_11
  have hb_10 := hb_10.sub s_11
  have hA' := hA'.sub s_11
  refine RL.store sh26 rfl rfl rfl hb_11 (by exact Nat.le_of_ble_eq_true rfl) (by rfl) rfl (fun w4 z4 hb_11 a4 => ?_)
  have S := S.upd a4 ge_11
  have hb_3 := hb_3.upd a4 n_3__11
  have hb_4 := hb_4.upd a4 n_4__11
  have hb_5 := hb_5.upd a4 n_5__11
  have hb_6 := hb_6.upd a4 n_6__11
  have hb_17 := hb_17.upd a4 n_17__11
  have hb_10 := hb_10.upd a4 n_10__11
  have hA' := hA'.updD a4 d_hA'_b_11
  have hb_11 : Has w4 b_11 ([.slice na' B.nodes.length nc', .slice fa' B.free.length fc']) _ := hb_11.now (by kernel_rfl)
  refine RL.ev (.assign rfl) rfl rfl ?_
  refine RL.ev (.assign rfl) rfl rfl ?_
  refine RL.nil (RC.back ?_)
  refine RC.seq ?_
  refine RC.seq ?_
  refine RC.region rfl ?_
  refine RL.ev (.move rfl) rfl rfl ?_
  refine RL.ev (.bin rfl rfl rfl) rfl rfl ?_
  refine RL.nil (RC.back ?_)
  refine RC.cond_dec rfl (fun h5 => ?_) (fun h5 => ?_)
  ·
    have he := h5
    refine RC.region rfl ?_
    refine RL.store sh2 rfl rfl rfl hb_10 (by exact Nat.le_of_ble_eq_true rfl) (by rfl) rfl (fun w6 z6 hb_10 a6 => ?_)
    have S := S.upd a6 ge_10
    have hb_3 := hb_3.upd a6 n_3__10
    have hb_4 := hb_4.upd a6 n_4__10
    have hb_5 := hb_5.upd a6 n_5__10
    have hb_6 := hb_6.upd a6 n_6__10
    have hb_17 := hb_17.upd a6 n_10__17.symm
    have hA' := hA'.updD a6 dB10
    have hb_11 := hb_11.upd a6 n_10__11.symm
    refine RL.nil (RC.back ?_)
    refine RC.seq ?_
    refine RC.drawD (fun k => k = b_6) [4] w6.heap.size 8 rfl rfl mxo (fun w7 s8 => ?_)
    have hNN : ∀ k, ((k = b_6) ∨ w6.heap.size ≤ k) → w.heap.size ≤ k := fun k e => e.elim (fun e => e ▸ ge_6) (fun e => Nat.le_trans S.size e)
    have ent_S := S.size
    have hN0 : ∀ k, w6.heap.size ≤ k → w.heap.size ≤ k := fun k e => Nat.le_trans S.size e
    have ltD_b_3 := hb_3.lt
    have ltD_b_4 := hb_4.lt
    have ltD_b_5 := hb_5.lt
    have ltD_b_6 := hb_6.lt
    have ltD_b_17 := hb_17.lt
    have ltD_b_10 := hb_10.lt
    have ltD_hA' := fun k hk => (hA'.ge k hk).2
    have ltD_b_11 := hb_11.lt
    have szD := Nat.le_refl w6.heap.size
    have S := S.trans s8
    have hb_3 := hb_3.sub s8
    have hb_4 := hb_4.sub s8
    have hb_5 := hb_5.sub s8
    have hb_6 := hb_6.sub s8
    have hb_17 := hb_17.sub s8
    have hb_10 := hb_10.sub s8
    have hA' := hA'.sub s8
    have hb_11 := hb_11.sub s8
    have szD := Nat.le_trans szD s8.size
    refine RD.take 0 rfl (by kernel_rfl) (by kernel_rfl) (by kernel_rfl) (fun w' s' => .loadR ([.slice na' B.nodes.length nc', .slice fa' B.free.length fc']) sh26 rfl (hb_11.step s' (fun e => e.elim (fun e => n_6__11.symm e) (fun e => Nat.not_le.2 ltD_b_11 e))).row rfl) rfl rfl ?_
    refine RD.take 1 rfl (by kernel_rfl) (by kernel_rfl) (by kernel_rfl) (fun w' s' => .move rfl) rfl rfl ?_
    refine RD.take 2 rfl (by kernel_rfl) (by kernel_rfl) (by kernel_rfl) (fun w' s' => .load1 sh2 rfl ((hb_10.step s' (fun e => e.elim (fun e => n_6__10.symm e) (fun e => Nat.not_le.2 ltD_b_10 e))).cell rfl)) rfl rfl ?_
    refine RD.take 3 rfl (by kernel_rfl) (by kernel_rfl) (by kernel_rfl) (fun w' s' => .move rfl) rfl rfl ?_
    refine RD.all [4] (by kernel_rfl) rfl (RDs.cons rfl ?_ (RDs.nil))
    refine RL.store sh26 rfl rfl rfl hb_6 (by exact Nat.le_of_ble_eq_true rfl) (by rfl) rfl (fun w9 z9 hb_6 a9 => ?_)
    have S := S.upd a9 ge_6
    have hb_3 := hb_3.upd a9 n_3__6
    have hb_4 := hb_4.upd a9 n_4__6
    have hb_5 := hb_5.upd a9 n_5__6
    have hb_17 := hb_17.upd a9 n_6__17.symm
    have hb_10 := hb_10.upd a9 n_6__10.symm
    have hA' := hA'.updD a9 dB6
    have hb_11 := hb_11.upd a9 n_6__11.symm
    have szD := Nat.le_trans szD a9.size
    have hb_6 : Has w9 b_6 ([.slice na' B.nodes.length nc', .slice fa' B.free.length fc']) _ := hb_6.now (by kernel_rfl)
    refine RD.backW rfl (a9.mono fun k _ e => e ▸ (.inl (rfl))) ?_
    refine RD.take 5 rfl (by kernel_rfl) (by kernel_rfl) (by kernel_rfl) (fun w' s' => .assign rfl) rfl rfl ?_
    refine RD.take 6 rfl (by kernel_rfl) (by kernel_rfl) (by kernel_rfl) (fun w' s' => .assign rfl) rfl rfl ?_
    refine RD.take 7 rfl (by kernel_rfl) (by kernel_rfl) (by kernel_rfl) (fun w' s' => .assign rfl) rfl rfl ?_
    refine RD.done (by kernel_rfl) (RC.back ?_)
    refine RC.done (rs := [.cell 6 26, .tmp 7, .tmp 8, .tmp 9]) (vs := [_, _, _, _]) rfl rfl ⟨⟨_, rfl, .inr ⟨[.slice na' B.nodes.length nc', .slice fa' B.free.length fc'], sh26, hb_6.row, rfl⟩⟩, rfl, rfl, rfl, trivial⟩ ?_
    -- end 1
    exact ⟨S, na', fa', nc', fc', B, r', _, e, M', rfl, hu, by first | exact hv64 | (unfold I64; decide), hnc', hfc', hA', hup, q1, fun h => ⟨(q2 h).1, (q2 h).2, by first | rfl | exact absurd he h⟩, fun V' P' h1 h2 => by have := q3 V' P' h1 h2; first | exact this | (rcases this with h | h | h; exact .inl h; exact .inr (.inl h); exact absurd h.2.1 he)⟩
  ·
    have he : e = 0 := Decidable.not_not.1 h5
    refine RC.skip (RC.back ?_)
    refine RC.seq ?_
    refine RC.drawD (fun k => k = b_6) [4] w4.heap.size 8 rfl rfl mxo (fun w10 s11 => ?_)
    have hNN : ∀ k, ((k = b_6) ∨ w4.heap.size ≤ k) → w.heap.size ≤ k := fun k e => e.elim (fun e => e ▸ ge_6) (fun e => Nat.le_trans S.size e)
    have ent_S := S.size
    have hN0 : ∀ k, w4.heap.size ≤ k → w.heap.size ≤ k := fun k e => Nat.le_trans S.size e
    have ltD_b_3 := hb_3.lt
    have ltD_b_4 := hb_4.lt
    have ltD_b_5 := hb_5.lt
    have ltD_b_6 := hb_6.lt
    have ltD_b_17 := hb_17.lt
    have ltD_b_10 := hb_10.lt
    have ltD_hA' := fun k hk => (hA'.ge k hk).2
    have ltD_b_11 := hb_11.lt
    have szD := Nat.le_refl w4.heap.size
    have S := S.trans s11
    have hb_3 := hb_3.sub s11
    have hb_4 := hb_4.sub s11
    have hb_5 := hb_5.sub s11
    have hb_6 := hb_6.sub s11
    have hb_17 := hb_17.sub s11
    have hb_10 := hb_10.sub s11
    have hA' := hA'.sub s11
    have hb_11 := hb_11.sub s11
    have szD := Nat.le_trans szD s11.size
    refine RD.take 0 rfl (by kernel_rfl) (by kernel_rfl) (by kernel_rfl) (fun w' s' => .loadR ([.slice na' B.nodes.length nc', .slice fa' B.free.length fc']) sh26 rfl (hb_11.step s' (fun e => e.elim (fun e => n_6__11.symm e) (fun e => Nat.not_le.2 ltD_b_11 e))).row rfl) rfl rfl ?_
    refine RD.take 1 rfl (by kernel_rfl) (by kernel_rfl) (by kernel_rfl) (fun w' s' => .move rfl) rfl rfl ?_
    refine RD.take 2 rfl (by kernel_rfl) (by kernel_rfl) (by kernel_rfl) (fun w' s' => .load1 sh2 rfl ((hb_10.step s' (fun e => e.elim (fun e => n_6__10.symm e) (fun e => Nat.not_le.2 ltD_b_10 e))).cell rfl)) rfl rfl ?_
    refine RD.take 3 rfl (by kernel_rfl) (by kernel_rfl) (by kernel_rfl) (fun w' s' => .move rfl) rfl rfl ?_
    refine RD.all [4] (by kernel_rfl) rfl (RDs.cons rfl ?_ (RDs.nil))
    refine RL.store sh26 rfl rfl rfl hb_6 (by exact Nat.le_of_ble_eq_true rfl) (by rfl) rfl (fun w12 z12 hb_6 a12 => ?_)
    have S := S.upd a12 ge_6
    have hb_3 := hb_3.upd a12 n_3__6
    have hb_4 := hb_4.upd a12 n_4__6
    have hb_5 := hb_5.upd a12 n_5__6
    have hb_17 := hb_17.upd a12 n_6__17.symm
    have hb_10 := hb_10.upd a12 n_6__10.symm
    have hA' := hA'.updD a12 dB6
    have hb_11 := hb_11.upd a12 n_6__11.symm
    have szD := Nat.le_trans szD a12.size
    have hb_6 : Has w12 b_6 ([.slice na' B.nodes.length nc', .slice fa' B.free.length fc']) _ := hb_6.now (by kernel_rfl)
    refine RD.backW rfl (a12.mono fun k _ e => e ▸ (.inl (rfl))) ?_
    refine RD.take 5 rfl (by kernel_rfl) (by kernel_rfl) (by kernel_rfl) (fun w' s' => .assign rfl) rfl rfl ?_
    refine RD.take 6 rfl (by kernel_rfl) (by kernel_rfl) (by kernel_rfl) (fun w' s' => .assign rfl) rfl rfl ?_
    refine RD.take 7 rfl (by kernel_rfl) (by kernel_rfl) (by kernel_rfl) (fun w' s' => .assign rfl) rfl rfl ?_
    refine RD.done (by kernel_rfl) (RC.back ?_)
    refine RC.done (rs := [.cell 6 26, .tmp 7, .tmp 8, .tmp 9]) (vs := [_, _, _, _]) rfl rfl ⟨⟨_, rfl, .inr ⟨[.slice na' B.nodes.length nc', .slice fa' B.free.length fc'], sh26, hb_6.row, rfl⟩⟩, rfl, rfl, rfl, trivial⟩ ?_
    -- end 2
    exact ⟨S, na', fa', nc', fc', B, r', _, e, M', rfl, hu, by first | exact hv64 | (unfold I64; decide), hnc', hfc', hA', hup, q1, fun h => ⟨(q2 h).1, (q2 h).2, by first | rfl | exact absurd he h⟩, fun V' P' h1 h2 => by have := q3 V' P' h1 h2; first | exact this | (rcases this with h | h | h; exact .inl h; exact .inr (.inl h); exact absurd h.2.1 he)⟩
/-! ### Cut -/
def CutJ (A : Ar) (V P : List Int) (p : Int) (b10 : Nat) (s' : St) (r' e : Int) (u : World) : Prop :=
  ∃ r2, Has u b10 [.int .u64 r2] 28 ∧ U64 r2 ∧ ((¬ (0 ≤ p ∧ p ≤ V.length) ∧ e = 5 ∧ r2 = 0) ∨ (0 ≤ p ∧ p ≤ V.length ∧ e = 0 ∧ Gr V.length (A, 0) s' ∧ (s'.2 = 0 → Wv2 (A, 0) s' r' r2 (V.take p.toNat) (V.drop p.toNat) P)))
theorem c_dcut1 (A : Ar) (r p : Int) (hr : U64 r) (hp : I64 p) (V P : List Int) (hA : AOk A) (hV : IsR A r V P) (hl : V.length ≤ 200) (bf b4 b5 b10 : Nat) (C : Nat → Prop) (w : World) (hF : Ft C (Wo bf (A, 0) C) w)
    (m4 : Has w b4 [.int .u64 r] 28) (m5 : Has w b5 [.int .i64 p] 3) (m10 : Has w b10 [.int .u64 0] 28) (hn : ¬ C b10) (hf : b10 ≠ bf) :
    FC Try.prog 39 [.pointer (some ⟨bf, 0, none⟩), .pointer (some ⟨b5, 0, none⟩), .pointer (some ⟨b4, 0, none⟩), .pointer (some ⟨b10, 0, none⟩)] w (fun u w2 => ∃ s' r' e C', u = .tuple #[.int .u64 r', .int .i64 e] ∧ U64 r' ∧ Ft C' (Wo bf s' C') w2 ∧ Agr (fun k => k = bf ∨ k = b10) w w2 ∧ Up C w C' ∧ Ft (· = b10) (CutJ A V P p b10 s' r' e) w2) := by
  have hsz := hV.size
  have hp : -9223372036854775808 ≤ p ∧ p ≤ 9223372036854775807 := hp
  refine FC.intro Try.func39 rfl Try.ntmps39 rfl ?_
  have G : Agr (fun k => k = bf ∨ k = b10) w w := Agr.refl _ _
  have hFb10 : ∀ k, C k → k ≠ b10 := (fun k hk e => hn (e ▸ hk))
  refine RC.seq ?_
  refine RC.region rfl ?_
  refine RL.ev (.assign rfl) rfl rfl ?_
  refine RL.ev (.assign rfl) rfl rfl ?_
  refine RL.nil (RC.back ?_)
  refine RC.seq ?_
  refine RC.seq ?_
  refine RC.draw rfl mxo (by kernel_rfl) ?_
  refine RQ.ev (.load1 sh3 rfl (m5.cell rfl)) rfl rfl ?_
  refine RQ.ev (.bin rfl rfl rfl) rfl rfl ?_
  refine RQ.ev (.move rfl) rfl rfl ?_
  refine RQ.split 11 rfl (fun h1 => ?_) (fun h1 => ?_)
  ·
    have q1 : p < 0 := h1
    refine RQ.off rfl rfl ?_
    refine RQ.off rfl rfl ?_
    refine RQ.off rfl rfl ?_
    refine RQ.off rfl rfl ?_
    refine RQ.off rfl rfl ?_
    refine RQ.off rfl rfl ?_
    refine RQ.ev (.pick_t rfl rfl) rfl rfl ?_
    refine RQ.nil (fun w2 s3 => RC.back ?_)
    have G := G.trans s3.agr
    have hF := hF.sub s3
    have m4 := m4.sub s3
    have m5 := m5.sub s3
    have m10 := m10.sub s3
    refine RC.cond_t rfl ?_
    refine RC.seq ?_
    refine RC.region rfl ?_
    refine RL.ev (.assign rfl) rfl rfl ?_
    refine RL.ev (.assign rfl) rfl rfl ?_
    refine RL.nil (RC.back ?_)
    refine RC.done (rs := [.tmp 5, .tmp 6]) (vs := [_, _]) rfl rfl ⟨rfl, rfl, trivial⟩ ?_
    -- end 1
    exact ⟨(A, 0), 0, 5, C, rfl, zu0, hF, G, Up.refl _ _, ⟨fun k e => e ▸ m10.lt, fun u a => ⟨0, m10.step a (fun h => h rfl), zu0, .inl ⟨by omega, rfl, rfl⟩⟩⟩⟩
  ·
    have q1 : ¬ p < 0 := h1
    refine RQ.ev (.load1 sh3 rfl (m5.cell rfl)) rfl rfl ?_
    refine RQ.ev (.move rfl) rfl rfl ?_
    refine RQ.ev (.load1 sh28 rfl (m4.cell rfl)) rfl rfl ?_
    refine RQ.call rfl ok30 (fun w' s' => c_wget bf (A, 0) C r hr w' (hF.sub s')) rfl rfl ?_
    refine RQ.ev (.as (v' := .int .i64 (V.length : Int)) (.fieldV Try.underlying73 rfl sh2 rfl rfl) (by show Value.int .i64 (getN A r).s = _; rw [getN_s, hsz])) rfl rfl ?_
    refine RQ.ev (.bin rfl rfl rfl) rfl rfl ?_
    refine RQ.ev (.pick_f rfl rfl) rfl rfl ?_
    refine RQ.nil (fun w4 s5 => RC.back ?_)
    have G := G.trans s5.agr
    have hF := hF.sub s5
    have m4 := m4.sub s5
    have m5 := m5.sub s5
    have m10 := m10.sub s5
    refine RC.cond_dec rfl (fun h6 => ?_) (fun h6 => ?_)
    ·
      have q2 := h6
      refine RC.seq ?_
      refine RC.region rfl ?_
      refine RL.ev (.assign rfl) rfl rfl ?_
      refine RL.ev (.assign rfl) rfl rfl ?_
      refine RL.nil (RC.back ?_)
      refine RC.done (rs := [.tmp 5, .tmp 6]) (vs := [_, _]) rfl rfl ⟨rfl, rfl, trivial⟩ ?_
      -- end 2
      exact ⟨(A, 0), 0, 5, C, rfl, zu0, hF, G, Up.refl _ _, ⟨fun k e => e ▸ m10.lt, fun u a => ⟨0, m10.step a (fun h => h rfl), zu0, .inl ⟨by omega, rfl, rfl⟩⟩⟩⟩
    ·
      have q2 := h6
      obtain ⟨n, hpn⟩ := Int.eq_ofNat_of_zero_le (show 0 ≤ p by omega)
      have hnV : n ≤ V.length := (by omega)
      refine RC.skip (RC.back ?_)
      refine RC.seq ?_
      refine RC.region rfl ?_
      refine RL.ev (.move rfl) rfl rfl ?_
      refine RL.ev (.load1 sh28 rfl (m4.cell rfl)) rfl rfl ?_
      refine RL.ev (.as (v' := .int .i64 (n : Int)) (.load1 sh3 rfl (m5.cell rfl)) (by rw [hpn])) rfl rfl ?_
      refine RL.call rfl ok35 (c_wcut bf A hA hV n (A, 0) C w4 hnV (by omega) (Ext.refl _) (fun _ h => h) hA hr hF) rfl rfl ?_
      rintro _ w7 ⟨s1, C1, hg, ⟨r1, r2, rfl, hu1, hu2, hi⟩, hF1, ag, up⟩
      have dF1 : ∀ k, C1 k → k ≠ b10 := fun k hk e => up.not m10.lt hn (e ▸ hk)
      have up := up.le G.size
      have G := G.trans (ag.mono fun k _ e => .inl e)
      have m10 := m10.step ag hf
      refine RL.ev (.move rfl) rfl rfl ?_
      refine RL.ev (.extract rfl rfl) rfl rfl ?_
      refine RL.ev (.extract rfl rfl) rfl rfl ?_
      refine RL.ev (.assign rfl) rfl rfl ?_
      refine RL.ev (.assign rfl) rfl rfl ?_
      refine RL.nil (RC.back ?_)
      refine RC.seq ?_
      refine RC.region rfl ?_
      refine RL.ev (.move rfl) rfl rfl ?_
      refine RL.store sh28 rfl rfl rfl m10 (by exact Nat.le_of_ble_eq_true rfl) (by rfl) rfl (fun w9 z9 m10 a9 => ?_)
      have G := G.trans (a9.mono fun k _ e => .inr (e))
      have hF1 := hF1.updD a9 dF1
      have m10 : Has w9 b10 ([.int .u64 r2]) _ := m10
      refine RL.nil (RC.back ?_)
      refine RC.seq ?_
      refine RC.region rfl ?_
      refine RL.ev (.move rfl) rfl rfl ?_
      refine RL.ev (.assign rfl) rfl rfl ?_
      refine RL.ev (.assign rfl) rfl rfl ?_
      refine RL.nil (RC.back ?_)
      refine RC.done (rs := [.tmp 5, .tmp 6]) (vs := [_, _]) rfl rfl ⟨rfl, rfl, trivial⟩ ?_
      -- end 3
      exact ⟨s1, r1, 0, C1, rfl, hu1, hF1, G, up, ⟨fun k e => e ▸ m10.lt, fun u a => ⟨r2, m10.step a (fun h => h rfl), hu2, .inr ⟨by omega, by omega, rfl, hg, by rw [hpn]; exact hi⟩⟩⟩⟩
def CutP (A : Ar) (r p : Int) (M : Nat → Prop) (w w' : World) (u : Value) : Prop :=
  ∃ na fa nc fc B r1 r2 e M', u = .tuple #[arV na fa nc fc B, .int .u64 r1, .int .u64 r2, .int .i64 e] ∧ U64 r1 ∧ U64 r2 ∧ B.nodes.length ≤ nc ∧ B.free.length ≤ fc ∧ Ft M' (fun u => ArR u na fa B) w' ∧ Up M w M' ∧
    (¬ isRow A r → e = 1) ∧ (¬ e = 0 → B = ar0 ∧ r1 = 0 ∧ r2 = 0) ∧ ∀ V P, isRow A r → IsR A r V P → (¬ (0 ≤ p ∧ p ≤ V.length) ∧ e = 5) ∨ (0 ≤ p ∧ p ≤ V.length ∧ e = 2 ∧ A.free.length < V.length) ∨
      (0 ≤ p ∧ p ≤ V.length ∧ e = 0 ∧ Ext A B ∧ AOk B ∧ A.free.length ≤ B.free.length + V.length ∧ ∃ M N, IsR B r1 (V.take p.toNat) M ∧ IsR B r2 (V.drop p.toNat) N ∧ ∀ q ∈ M, ¬ q ∈ N)
theorem cut_form {A B : Ar} {r r1 e p : Int} {b10 : Nat} {w w' : World} {V P : List Int} (hm : isRow A r → IsR A r V P) (m10 : Has w b10 [.int .u64 0] 28) (h : CallR A [r] (CutJ A V P p b10) (· = b10) w w' B r1 e) :
    ∃ r2, Has w' b10 [.int .u64 r2] 28 ∧ U64 r2 ∧ (¬ isRow A r → e = 1) ∧ (¬ e = 0 → B = ar0 ∧ r1 = 0) ∧ ∀ V P, isRow A r → IsR A r V P → (¬ (0 ≤ p ∧ p ≤ V.length) ∧ e = 5) ∨ (0 ≤ p ∧ p ≤ V.length ∧ e = 2 ∧ A.free.length < V.length) ∨
      (0 ≤ p ∧ p ≤ V.length ∧ e = 0 ∧ Ext A B ∧ AOk B ∧ A.free.length ≤ B.free.length + V.length ∧ ∃ M N, IsR B r1 (V.take p.toNat) M ∧ IsR B r2 (V.drop p.toNat) N ∧ ∀ q ∈ M, ¬ q ∈ N) := by
  rcases h with ⟨h1, h2, h3, h4, hs⟩ | ⟨h1, s', r0, e0, hJ, he, h3, h4⟩
  · exact ⟨0, m10.sub hs, zu0, fun _ => h2, fun _ => ⟨h3, h4⟩, fun V' P' h => absurd h (rows_1no h1)⟩
  · have hmap := rows_1 h1
    obtain ⟨r2, hr2, hu2, hJ⟩ := hJ.now
    refine ⟨r2, hr2, hu2, fun h => absurd hmap h, h3, fun V' P' _ hV' => ?_⟩
    obtain ⟨rfl, rfl⟩ := hV'.unique (hm hmap)
    rcases hJ with ⟨hb, h5, _⟩ | ⟨hb, hb2, h5, hg, hi⟩
    · exact .inl ⟨hb, by rw [he, h5]; rfl⟩
    · rw [h5, if_pos rfl] at he
      by_cases h0 : s'.2 = 0
      · obtain ⟨rfl, rfl⟩ := h4 (by rw [he, h0])
        obtain ⟨M, N, i1, i2, i3, _⟩ := hi h0
        exact .inr (.inr ⟨hb, hb2, by rw [he, h0], hg.gs.ext, hg.gs.ok, hg.gs.free, M, N, i1, i2, i3⟩)
      · have := hg.gs.full rfl h0
        exact .inr (.inl ⟨hb, hb2, by rw [he, this.1], this.2⟩)
theorem c_dcut (A : Ar) (na fa : Option Addr) (nc fc : Nat) (hnc : A.nodes.length ≤ nc) (hfc : A.free.length ≤ fc) (r p : Int) (hr : U64 r) (hp : I64 p) (M : Nat → Prop) (w : World) (hA : Ft M (fun u => ArR u na fa A) w) :
    FC Try.prog 19 [arV na fa nc fc A, .int .u64 r, .int .i64 p] w (fun u w' => Sub w w' ∧ CutP A r p M w w' u) := by
  obtain ⟨V, P, hm⟩ := rowsL A r
  refine FC.intro Try.func19 rfl Try.ntmps19 rfl ?_
  have S := Sub.refl w
  refine RC.seq ?_
  refine RC.region rfl ?_
  refine RL.box rfl rfl rfl (fun b_3 w_3 e_3 z_3 hb_3 s_3 => ?_)
  have ge_3 := S.le e_3
  have d_hA_b_3 := hA.neNew e_3
  have S := S.trans s_3
  have hA := hA.sub s_3
  have hb_3 : Has w_3 b_3 ([.slice na A.nodes.length nc, .slice fa A.free.length fc]) _ := hb_3
  refine RL.box rfl rfl rfl (fun b_4 w_4 e_4 z_4 hb_4 s_4 => ?_)
  have ge_4 := S.le e_4
  have n_3__4 := hb_3.ne e_4
  have d_hA_b_4 := hA.neNew e_4
  have S := S.trans s_4
  have hA := hA.sub s_4
  have hb_3 := hb_3.sub s_4
  refine RL.box rfl rfl rfl (fun b_5 w_5 e_5 z_5 hb_5 s_5 => ?_)
  have ge_5 := S.le e_5
  have n_3__5 := hb_3.ne e_5
  have n_4__5 := hb_4.ne e_5
  have d_hA_b_5 := hA.neNew e_5
  have S := S.trans s_5
  have hA := hA.sub s_5
  have hb_3 := hb_3.sub s_5
  have hb_4 := hb_4.sub s_5
  refine RL.alloc ze26 rfl rfl (fun b_6 w_6 e_6 z_6 hb_6 s_6 => ?_)
  have ge_6 := S.le e_6
  have n_3__6 := hb_3.ne e_6
  have n_4__6 := hb_4.ne e_6
  have n_5__6 := hb_5.ne e_6
  have d_hA_b_6 := hA.neNew e_6
  have S := S.trans s_6
  have hA := hA.sub s_6
  have hb_3 := hb_3.sub s_6
  have hb_4 := hb_4.sub s_6
  have hb_5 := hb_5.sub s_6
  refine RL.ev (.assign rfl) rfl rfl ?_
  refine RL.ev (.assign rfl) rfl rfl ?_
  refine RL.ev (.assign rfl) rfl rfl ?_
  refine RL.nil (RC.back ?_)
  refine RC.seq ?_
  refine RC.region rfl ?_
  refine RL.alloc ze28 rfl rfl (fun b_10 w_10 e_10 z_10 hb_10 s_10 => ?_)
  have ge_10 := S.le e_10
  have n_3__10 := hb_3.ne e_10
  have n_4__10 := hb_4.ne e_10
  have n_5__10 := hb_5.ne e_10
  have n_6__10 := hb_6.ne e_10
  have d_hA_b_10 := hA.neNew e_10
  have S := S.trans s_10
  have hA := hA.sub s_10
  have hb_3 := hb_3.sub s_10
  have hb_4 := hb_4.sub s_10
  have hb_5 := hb_5.sub s_10
  have hb_6 := hb_6.sub s_10
  refine RL.nil (RC.back ?_)
  refine RC.seq ?_
  refine RC.region rfl ?_
  refine RL.ev (.loadR ([.slice na A.nodes.length nc, .slice fa A.free.length fc]) sh26 rfl hb_3.row rfl) rfl rfl ?_
  refine RL.ev (.load1 sh28 rfl (hb_4.cell rfl)) rfl rfl ?_
  refine RL.buildSlice1 sl61 _ ze28 rfl rfl rfl rfl rfl rfl rfl (fun b_17 w_17 e_17 z_17 hb_17 s_17 => ?_)
  have ge_17 := S.le e_17
  have n_3__17 := hb_3.ne e_17
  have n_4__17 := hb_4.ne e_17
  have n_5__17 := hb_5.ne e_17
  have n_6__17 := hb_6.ne e_17
  have n_10__17 := hb_10.ne e_17
  have d_hA_b_17 := hA.neNew e_17
  have S := S.trans s_17
  have hA := hA.sub s_17
  have hb_3 := hb_3.sub s_17
  have hb_4 := hb_4.sub s_17
  have hb_5 := hb_5.sub s_17
  have hb_6 := hb_6.sub s_17
  have hb_10 := hb_10.sub s_17
  refine RL.ev (.func (xs := []) (ys := [_, _, _]) rfl rfl) rfl rfl ?_
  refine RL.call rfl ok28 (c_dcall 39 ok39 [.pointer (some ⟨b_5, 0, none⟩), .pointer (some ⟨b_4, 0, none⟩), .pointer (some ⟨b_10, 0, none⟩)] A na fa nc fc hnc hfc [r] (some ⟨b_17, 0, none⟩) 1 1 rfl (Nat.le_of_ble_eq_true rfl) (fun x hx => by rw [List.mem_singleton] at hx; rw [hx]; exact hr) (· = b_10) M (CutJ A V P p b_10) w_17 hA (Has.sl1 (enc := u6) (l := [r]) hb_17) (fun k e => e ▸ hb_10.lt) (fun hyes bf C w1 s1 hbf hF hCM => FC.mono (c_dcut1 A r p hr hp V P (rows_1 hyes).1 (hm (rows_1 hyes)) (isRow_len (rows_1 hyes) (hm (rows_1 hyes))) bf b_4 b_5 b_10 C w1 hF (hb_4.sub s1) (hb_5.sub s1) (hb_10.sub s1) (fun e => (hCM _ e).elim (fun e => by have := hb_10.lt; omega) (fun e => d_hA_b_10 _ e rfl)) (fun e => by have := hb_10.lt; omega)) (fun u w2 h => h))) rfl rfl ?_
  rintro _ w1 ⟨ag, na', fa', nc', fc', B, r', e, M', rfl, hu, hnc', hfc', hA', hup, hcp⟩
  obtain ⟨r2, hr2, hu2, q1, q2, q3⟩ := cut_form hm hb_10 hcp
  have dB6 : ∀ k, M' k → k ≠ b_6 := (fun k hk e => hup.not hb_6.lt (fun e' => d_hA_b_6 _ e' rfl) (e ▸ hk))
  have dB10 : ∀ k, M' k → k ≠ b_10 := (fun k hk e => hup.not hb_10.lt (fun e' => d_hA_b_10 _ e' rfl) (e ▸ hk))
  have hup := hup.le S.size
  have S := S.agrN ag (fun k e => e ▸ ge_10)
  have hb_3 := hb_3.step ag (fun e => n_3__10 e)
  have hb_4 := hb_4.step ag (fun e => n_4__10 e)
  have hb_5 := hb_5.step ag (fun e => n_5__10 e)
  have hb_6 := hb_6.step ag (fun e => n_6__10 e)
  have hb_17 := hb_17.step ag (fun e => n_10__17.symm e)
  have hb_10 := hr2
  refine RL.ev (.move rfl) rfl rfl ?_
  refine RL.ev (.extract rfl rfl) rfl rfl ?_
  refine RL.ev (.extract rfl rfl) rfl rfl ?_
  refine RL.ev (.extract rfl rfl) rfl rfl ?_
  refine RL.alloc ze26 rfl rfl (fun b_11 w_11 e_11 z_11 hb_11 s_11 => ?_)
  have ge_11 := S.le e_11
  have n_3__11 := hb_3.ne e_11
  have n_4__11 := hb_4.ne e_11
  have n_5__11 := hb_5.ne e_11
  have n_6__11 := hb_6.ne e_11
  have n_17__11 := hb_17.ne e_11
  have n_10__11 := hb_10.ne e_11
  have d_hA'_b_11 := hA'.neNew e_11
  have S := S.trans s_11
  have hb_3 := hb_3.sub s_11
  have hb_4 := hb_4.sub s_11
  have hb_5 := hb_5.sub s_11
  have hb_6 := hb_6.sub s_11
  have hb_17 := hb_17.sub s_11
  have hb_10 := hb_10.sub s_11
  have hA' := hA'.sub s_11
  refine RL.store sh26 rfl rfl rfl hb_11 (by exact Nat.le_of_ble_eq_true rfl) (by rfl) rfl (fun w3 z3 hb_11 a3 => ?_)
  have S := S.upd a3 ge_11
  have hb_3 := hb_3.upd a3 n_3__11
  have hb_4 := hb_4.upd a3 n_4__11
  have hb_5 := hb_5.upd a3 n_5__11
  have hb_6 := hb_6.upd a3 n_6__11
  have hb_17 := hb_17.upd a3 n_17__11
  have hb_10 := hb_10.upd a3 n_10__11
  have hA' := hA'.updD a3 d_hA'_b_11
  have hb_11 : Has w3 b_11 ([.slice na' B.nodes.length nc', .slice fa' B.free.length fc']) _ := hb_11.now (by kernel_rfl)
  refine RL.ev (.assign rfl) rfl rfl ?_
  refine RL.ev (.assign rfl) rfl rfl ?_
  refine RL.nil (RC.back ?_)
  refine RC.seq ?_
  refine RC.seq ?_
  refine RC.region rfl ?_
  refine RL.ev (.move rfl) rfl rfl ?_
  refine RL.ev (.bin rfl rfl rfl) rfl rfl ?_
  refine RL.nil (RC.back ?_)
  refine RC.cond_dec rfl (fun h4 => ?_) (fun h4 => ?_)
  ·
    have he := h4
    refine RC.region rfl ?_
    refine RL.store sh28 rfl rfl rfl hb_10 (by exact Nat.le_of_ble_eq_true rfl) (by rfl) rfl (fun w5 z5 hb_10 a5 => ?_)
    have S := S.upd a5 ge_10
    have hb_3 := hb_3.upd a5 n_3__10
    have hb_4 := hb_4.upd a5 n_4__10
    have hb_5 := hb_5.upd a5 n_5__10
    have hb_6 := hb_6.upd a5 n_6__10
    have hb_17 := hb_17.upd a5 n_10__17.symm
    have hA' := hA'.updD a5 dB10
    have hb_11 := hb_11.upd a5 n_10__11.symm
    refine RL.nil (RC.back ?_)
    refine RC.seq ?_
    refine RC.drawD (fun k => k = b_6) [4] w5.heap.size 8 rfl rfl mxo (fun w6 s7 => ?_)
    have hNN : ∀ k, ((k = b_6) ∨ w5.heap.size ≤ k) → w.heap.size ≤ k := fun k e => e.elim (fun e => e ▸ ge_6) (fun e => Nat.le_trans S.size e)
    have ent_S := S.size
    have hN0 : ∀ k, w5.heap.size ≤ k → w.heap.size ≤ k := fun k e => Nat.le_trans S.size e
    have ltD_b_3 := hb_3.lt
    have ltD_b_4 := hb_4.lt
    have ltD_b_5 := hb_5.lt
    have ltD_b_6 := hb_6.lt
    have ltD_b_17 := hb_17.lt
    have ltD_b_10 := hb_10.lt
    have ltD_hA' := fun k hk => (hA'.ge k hk).2
    have ltD_b_11 := hb_11.lt
    have szD := Nat.le_refl w5.heap.size
    have S := S.trans s7
    have hb_3 := hb_3.sub s7
    have hb_4 := hb_4.sub s7
    have hb_5 := hb_5.sub s7
    have hb_6 := hb_6.sub s7
    have hb_17 := hb_17.sub s7
    have hb_10 := hb_10.sub s7
    have hA' := hA'.sub s7
    have hb_11 := hb_11.sub s7
    have szD := Nat.le_trans szD s7.size
    refine RD.take 0 rfl (by kernel_rfl) (by kernel_rfl) (by kernel_rfl) (fun w' s' => .loadR ([.slice na' B.nodes.length nc', .slice fa' B.free.length fc']) sh26 rfl (hb_11.step s' (fun e => e.elim (fun e => n_6__11.symm e) (fun e => Nat.not_le.2 ltD_b_11 e))).row rfl) rfl rfl ?_
    refine RD.take 1 rfl (by kernel_rfl) (by kernel_rfl) (by kernel_rfl) (fun w' s' => .move rfl) rfl rfl ?_
    refine RD.take 2 rfl (by kernel_rfl) (by kernel_rfl) (by kernel_rfl) (fun w' s' => .load1 sh28 rfl ((hb_10.step s' (fun e => e.elim (fun e => n_6__10.symm e) (fun e => Nat.not_le.2 ltD_b_10 e))).cell rfl)) rfl rfl ?_
    refine RD.take 3 rfl (by kernel_rfl) (by kernel_rfl) (by kernel_rfl) (fun w' s' => .move rfl) rfl rfl ?_
    refine RD.all [4] (by kernel_rfl) rfl (RDs.cons rfl ?_ (RDs.nil))
    refine RL.store sh26 rfl rfl rfl hb_6 (by exact Nat.le_of_ble_eq_true rfl) (by rfl) rfl (fun w8 z8 hb_6 a8 => ?_)
    have S := S.upd a8 ge_6
    have hb_3 := hb_3.upd a8 n_3__6
    have hb_4 := hb_4.upd a8 n_4__6
    have hb_5 := hb_5.upd a8 n_5__6
    have hb_17 := hb_17.upd a8 n_6__17.symm
    have hb_10 := hb_10.upd a8 n_6__10.symm
    have hA' := hA'.updD a8 dB6
    have hb_11 := hb_11.upd a8 n_6__11.symm
    have szD := Nat.le_trans szD a8.size
    have hb_6 : Has w8 b_6 ([.slice na' B.nodes.length nc', .slice fa' B.free.length fc']) _ := hb_6.now (by kernel_rfl)
    refine RD.backW rfl (a8.mono fun k _ e => e ▸ (.inl (rfl))) ?_
    refine RD.take 5 rfl (by kernel_rfl) (by kernel_rfl) (by kernel_rfl) (fun w' s' => .assign rfl) rfl rfl ?_
    refine RD.take 6 rfl (by kernel_rfl) (by kernel_rfl) (by kernel_rfl) (fun w' s' => .assign rfl) rfl rfl ?_
    refine RD.take 7 rfl (by kernel_rfl) (by kernel_rfl) (by kernel_rfl) (fun w' s' => .assign rfl) rfl rfl ?_
    refine RD.done (by kernel_rfl) (RC.back ?_)
    refine RC.done (rs := [.cell 6 26, .tmp 7, .tmp 8, .tmp 9]) (vs := [_, _, _, _]) rfl rfl ⟨⟨_, rfl, .inr ⟨[.slice na' B.nodes.length nc', .slice fa' B.free.length fc'], sh26, hb_6.row, rfl⟩⟩, rfl, rfl, rfl, trivial⟩ ?_
    -- end 1
    exact ⟨S, na', fa', nc', fc', B, r', _, e, M', rfl, hu, by first | exact hu2 | exact zu0, hnc', hfc', hA', hup, q1, fun h => ⟨(q2 h).1, (q2 h).2, by first | rfl | exact absurd he h⟩, fun V' P' h1 h2 => by have := q3 V' P' h1 h2; first | exact this | (rcases this with h | h | h; exact .inl h; exact .inr (.inl h); exact absurd h.2.2.1 he)⟩
  ·
    have he : e = 0 := Decidable.not_not.1 h4
    refine RC.skip (RC.back ?_)
    refine RC.seq ?_
    refine RC.drawD (fun k => k = b_6) [4] w3.heap.size 8 rfl rfl mxo (fun w9 s10 => ?_)
    have hNN : ∀ k, ((k = b_6) ∨ w3.heap.size ≤ k) → w.heap.size ≤ k := fun k e => e.elim (fun e => e ▸ ge_6) (fun e => Nat.le_trans S.size e)
    have ent_S := S.size
    have hN0 : ∀ k, w3.heap.size ≤ k → w.heap.size ≤ k := fun k e => Nat.le_trans S.size e
    have ltD_b_3 := hb_3.lt
    have ltD_b_4 := hb_4.lt
    have ltD_b_5 := hb_5.lt
    have ltD_b_6 := hb_6.lt
    have ltD_b_17 := hb_17.lt
    have ltD_b_10 := hb_10.lt
    have ltD_hA' := fun k hk => (hA'.ge k hk).2
    have ltD_b_11 := hb_11.lt
    have szD := Nat.le_refl w3.heap.size
    have S := S.trans s10
    have hb_3 := hb_3.sub s10
    have hb_4 := hb_4.sub s10
    have hb_5 := hb_5.sub s10
    have hb_6 := hb_6.sub s10
    have hb_17 := hb_17.sub s10
    have hb_10 := hb_10.sub s10
    have hA' := hA'.sub s10
    have hb_11 := hb_11.sub s10
    have szD := Nat.le_trans szD s10.size
    refine RD.take 0 rfl (by kernel_rfl) (by kernel_rfl) (by kernel_rfl) (fun w' s' => .loadR ([.slice na' B.nodes.length nc', .slice fa' B.free.length fc']) sh26 rfl (hb_11.step s' (fun e => e.elim (fun e => n_6__11.symm e) (fun e => Nat.not_le.2 ltD_b_11 e))).row rfl) rfl rfl ?_
    refine RD.take 1 rfl (by kernel_rfl) (by kernel_rfl) (by kernel_rfl) (fun w' s' => .move rfl) rfl rfl ?_
    refine RD.take 2 rfl (by kernel_rfl) (by kernel_rfl) (by kernel_rfl) (fun w' s' => .load1 sh28 rfl ((hb_10.step s' (fun e => e.elim (fun e => n_6__10.symm e) (fun e => Nat.not_le.2 ltD_b_10 e))).cell rfl)) rfl rfl ?_
    refine RD.take 3 rfl (by kernel_rfl) (by kernel_rfl) (by kernel_rfl) (fun w' s' => .move rfl) rfl rfl ?_
    refine RD.all [4] (by kernel_rfl) rfl (RDs.cons rfl ?_ (RDs.nil))
    refine RL.store sh26 rfl rfl rfl hb_6 (by exact Nat.le_of_ble_eq_true rfl) (by rfl) rfl (fun w11 z11 hb_6 a11 => ?_)
    have S := S.upd a11 ge_6
    have hb_3 := hb_3.upd a11 n_3__6
    have hb_4 := hb_4.upd a11 n_4__6
    have hb_5 := hb_5.upd a11 n_5__6
    have hb_17 := hb_17.upd a11 n_6__17.symm
    have hb_10 := hb_10.upd a11 n_6__10.symm
    have hA' := hA'.updD a11 dB6
    have hb_11 := hb_11.upd a11 n_6__11.symm
    have szD := Nat.le_trans szD a11.size
    have hb_6 : Has w11 b_6 ([.slice na' B.nodes.length nc', .slice fa' B.free.length fc']) _ := hb_6.now (by kernel_rfl)
    refine RD.backW rfl (a11.mono fun k _ e => e ▸ (.inl (rfl))) ?_
    refine RD.take 5 rfl (by kernel_rfl) (by kernel_rfl) (by kernel_rfl) (fun w' s' => .assign rfl) rfl rfl ?_
    refine RD.take 6 rfl (by kernel_rfl) (by kernel_rfl) (by kernel_rfl) (fun w' s' => .assign rfl) rfl rfl ?_
    refine RD.take 7 rfl (by kernel_rfl) (by kernel_rfl) (by kernel_rfl) (fun w' s' => .assign rfl) rfl rfl ?_
    refine RD.done (by kernel_rfl) (RC.back ?_)
    refine RC.done (rs := [.cell 6 26, .tmp 7, .tmp 8, .tmp 9]) (vs := [_, _, _, _]) rfl rfl ⟨⟨_, rfl, .inr ⟨[.slice na' B.nodes.length nc', .slice fa' B.free.length fc'], sh26, hb_6.row, rfl⟩⟩, rfl, rfl, rfl, trivial⟩ ?_
    -- end 2
    exact ⟨S, na', fa', nc', fc', B, r', _, e, M', rfl, hu, by first | exact hu2 | exact zu0, hnc', hfc', hA', hup, q1, fun h => ⟨(q2 h).1, (q2 h).2, by first | rfl | exact absurd he h⟩, fun V' P' h1 h2 => by have := q3 V' P' h1 h2; first | exact this | (rcases this with h | h | h; exact .inl h; exact .inr (.inl h); exact absurd h.2.2.1 he)⟩
/-! ### Concat -/
def ConJ (A : Ar) (V U P Q : List Int) (s' : St) (r' e : Int) : Prop := (((∃ p ∈ P, p ∈ Q) ∨ 200 < V.length + U.length) ∧ e = 5) ∨ ((∀ p ∈ P, ¬ p ∈ Q) ∧ V.length + U.length ≤ 200 ∧ e = 0 ∧ Gr (V.length + U.length) (A, 0) s' ∧ (s'.2 = 0 → ∃ M, IsR s'.1 r' (V ++ U) M))
theorem reach_ok {A : Ar} {l : List Int} {v : Value} {w w' : World} (hA : AOk A) (h : ¬ AOk A ∧ v = .tuple #[.slice none 0 0, .int .i64 1] ∨
      AOk A ∧ ∃ a c, v = .tuple #[.slice a ((reachA A l).map fun x => [i6 x]).length c, .int .i64 0] ∧ (reachA A l).length ≤ c ∧ Pl A (reachA A l) ∧ ∀ N : Nat → Prop, (∀ k, N k → k < w.heap.size) → Imm N (fun u => Sl u a 1 ((reachA A l).map fun x => [i6 x])) w') :
    ∃ a c, v = .tuple #[.slice a ((reachA A l).map fun x => [i6 x]).length c, .int .i64 0] := by
  rcases h with ⟨h, _⟩ | ⟨_, a, c, h, _⟩
  · exact absurd hA h
  · exact ⟨a, c, h⟩
theorem pair_rows {w : World} {b e : Nat} {x y : Int} (h : Has w b [.int .u64 x, .int .u64 y] e) : Sl w (some ⟨b, 0, none⟩) 1 ([x, y].map fun x => [u6 x]) :=
  Has.sl0 (rows := [[u6 x], [u6 y]]) h (fun r hr => by simp only [List.mem_cons, List.not_mem_nil, or_false] at hr; rcases hr with rfl | rfl <;> rfl)
theorem c_dcon1 (A : Ar) (na fa : Option Addr) (nc fc : Nat) (a b : Int) (ha : U64 a) (hb : U64 b) (V U P Q : List Int) (hA : AOk A) (hV : IsR A a V P) (hU : IsR A b U Q) (hl : V.length ≤ 200) (hl2 : U.length ≤ 200) (bf b3 b4 b5 : Nat) (C : Nat → Prop) (w : World) (hF : Ft C (Wo bf (A, 0) C) w)
    (m3 : Has w b3 [.slice na A.nodes.length nc, .slice fa A.free.length fc] 26) (m4 : Has w b4 [.int .u64 a] 28) (m5 : Has w b5 [.int .u64 b] 28) (hR : ArR w na fa A) :
    FC Try.prog 36 [.pointer (some ⟨bf, 0, none⟩), .pointer (some ⟨b3, 0, none⟩), .pointer (some ⟨b4, 0, none⟩), .pointer (some ⟨b5, 0, none⟩)] w (fun u w2 => ∃ s' r' e C', u = .tuple #[.int .u64 r', .int .i64 e] ∧ U64 r' ∧ Ft C' (Wo bf s' C') w2 ∧ Agr (· = bf) w w2 ∧ Up C w C' ∧ ConJ A V U P Q s' r' e) := by
  have hlP := hV.len
  have hlQ := hU.len
  have hr1 := reach_one hA hV
  have hr2 := reach_one hA hU
  have hr3 := reach_two hA hV hU
  have hdis : (∀ p ∈ P, ¬ p ∈ Q) ∨ ∃ p ∈ P, p ∈ Q := by
    by_cases h : ∃ p ∈ P, p ∈ Q
    · exact .inr h
    · exact .inl fun p hp hq => h ⟨p, hp, hq⟩
  refine FC.intro Try.func36 rfl Try.ntmps36 rfl ?_
  have S := Sub.refl w
  have G : Agr (· = bf) w w := Agr.refl _ _
  refine RC.seq ?_
  refine RC.region rfl ?_
  refine RL.ev (.assign rfl) rfl rfl ?_
  refine RL.ev (.assign rfl) rfl rfl ?_
  refine RL.nil (RC.back ?_)
  refine RC.seq ?_
  refine RC.region rfl ?_
  refine RL.ev (.loadR ([.slice na A.nodes.length nc, .slice fa A.free.length fc]) sh26 rfl m3.row rfl) rfl rfl ?_
  refine RL.ev (.load1 sh28 rfl (m4.cell rfl)) rfl rfl ?_
  refine RL.buildSlice1 sl61 _ ze28 rfl rfl rfl rfl rfl rfl rfl (fun b_16 w_16 e_16 z_16 hb_16 s_16 => ?_)
  have ge_16 := S.le e_16
  have n3__16 := m3.ne e_16
  have n4__16 := m4.ne e_16
  have n5__16 := m5.ne e_16
  have d_hF_b_16 := hF.neNew e_16
  have S := S.trans s_16
  have geG_16 := agLe G e_16
  have G := G.trans s_16.agr
  have hF := hF.sub s_16
  have m3 := m3.sub s_16
  have m4 := m4.sub s_16
  have m5 := m5.sub s_16
  refine RL.call rfl ok37 (c_aReach A na fa nc fc [a] 1 rfl (some ⟨b_16, 0, none⟩) 1 (Nat.le_of_ble_eq_true rfl) (fun x hx => by rw [List.mem_singleton] at hx; rw [hx]; exact ha) w_16 (hR.sub S) (Has.sl1 (enc := u6) (l := [a]) hb_16)) rfl rfl ?_
  rintro vr w1 ⟨s2, hq⟩
  have S := S.trans s2
  have G := G.trans s2.agr
  have hF := hF.sub s2
  have m3 := m3.sub s2
  have m4 := m4.sub s2
  have m5 := m5.sub s2
  have hb_16 := hb_16.sub s2
  obtain ⟨xa, xc, rfl⟩ := reach_ok hA hq
  refine RL.ev (.move rfl) rfl rfl ?_
  refine RL.ev (.extract rfl rfl) rfl rfl ?_
  refine RL.ev (.extract rfl rfl) rfl rfl ?_
  refine RL.ev (.assign rfl) rfl rfl ?_
  refine RL.ev (.assign rfl) rfl rfl ?_
  refine RL.nil (RC.back ?_)
  refine RC.seq ?_
  refine RC.region rfl ?_
  refine RL.ev (.loadR ([.slice na A.nodes.length nc, .slice fa A.free.length fc]) sh26 rfl m3.row rfl) rfl rfl ?_
  refine RL.ev (.load1 sh28 rfl (m5.cell rfl)) rfl rfl ?_
  refine RL.buildSlice1 sl61 _ ze28 rfl rfl rfl rfl rfl rfl rfl (fun b_23 w_23 e_23 z_23 hb_23 s_23 => ?_)
  have ge_23 := S.le e_23
  have n3__23 := m3.ne e_23
  have n4__23 := m4.ne e_23
  have n5__23 := m5.ne e_23
  have n_16__23 := hb_16.ne e_23
  have d_hF_b_23 := hF.neNew e_23
  have S := S.trans s_23
  have geG_23 := agLe G e_23
  have G := G.trans s_23.agr
  have hF := hF.sub s_23
  have m3 := m3.sub s_23
  have m4 := m4.sub s_23
  have m5 := m5.sub s_23
  have hb_16 := hb_16.sub s_23
  refine RL.call rfl ok37 (c_aReach A na fa nc fc [b] 1 rfl (some ⟨b_23, 0, none⟩) 1 (Nat.le_of_ble_eq_true rfl) (fun x hx => by rw [List.mem_singleton] at hx; rw [hx]; exact hb) w_23 (hR.sub S) (Has.sl1 (enc := u6) (l := [b]) hb_23)) rfl rfl ?_
  rintro vr w3 ⟨s4, hq⟩
  have S := S.trans s4
  have G := G.trans s4.agr
  have hF := hF.sub s4
  have m3 := m3.sub s4
  have m4 := m4.sub s4
  have m5 := m5.sub s4
  have hb_16 := hb_16.sub s4
  have hb_23 := hb_23.sub s4
  obtain ⟨ya, yc, rfl⟩ := reach_ok hA hq
  refine RL.ev (.move rfl) rfl rfl ?_
  refine RL.ev (.extract rfl rfl) rfl rfl ?_
  refine RL.ev (.extract rfl rfl) rfl rfl ?_
  refine RL.ev (.assign rfl) rfl rfl ?_
  refine RL.ev (.assign rfl) rfl rfl ?_
  refine RL.nil (RC.back ?_)
  refine RC.seq ?_
  refine RC.region rfl ?_
  refine RL.ev (.loadR ([.slice na A.nodes.length nc, .slice fa A.free.length fc]) sh26 rfl m3.row rfl) rfl rfl ?_
  refine RL.ev (.load1 sh28 rfl (m4.cell rfl)) rfl rfl ?_
  refine RL.ev (.load1 sh28 rfl (m5.cell rfl)) rfl rfl ?_
  refine RL.buildSliceN (vs := [_, _]) sl61 _ ze28 rfl ⟨rfl, rfl, trivial⟩ rfl rfl rfl rfl rfl rfl (fun b_31 w_31 e_31 z_31 hb_31 s_31 => ?_)
  have ge_31 := S.le e_31
  have n3__31 := m3.ne e_31
  have n4__31 := m4.ne e_31
  have n5__31 := m5.ne e_31
  have n_16__31 := hb_16.ne e_31
  have n_23__31 := hb_23.ne e_31
  have d_hF_b_31 := hF.neNew e_31
  have S := S.trans s_31
  have geG_31 := agLe G e_31
  have G := G.trans s_31.agr
  have hF := hF.sub s_31
  have m3 := m3.sub s_31
  have m4 := m4.sub s_31
  have m5 := m5.sub s_31
  have hb_16 := hb_16.sub s_31
  have hb_23 := hb_23.sub s_31
  refine RL.call rfl ok37 (c_aReach A na fa nc fc [a, b] 2 rfl (some ⟨b_31, 0, none⟩) 2 (Nat.le_of_ble_eq_true rfl) (fun x hx => by simp only [List.mem_cons, List.not_mem_nil, or_false] at hx; rcases hx with rfl | rfl; exact ha; exact hb) w_31 (hR.sub S) (pair_rows hb_31)) rfl rfl ?_
  rintro vr w5 ⟨s6, hq⟩
  have S := S.trans s6
  have G := G.trans s6.agr
  have hF := hF.sub s6
  have m3 := m3.sub s6
  have m4 := m4.sub s6
  have m5 := m5.sub s6
  have hb_16 := hb_16.sub s6
  have hb_23 := hb_23.sub s6
  have hb_31 := hb_31.sub s6
  obtain ⟨za, zc, rfl⟩ := reach_ok hA hq
  refine RL.ev (.move rfl) rfl rfl ?_
  refine RL.ev (.extract rfl rfl) rfl rfl ?_
  refine RL.ev (.extract rfl rfl) rfl rfl ?_
  refine RL.ev (.assign rfl) rfl rfl ?_
  refine RL.ev (.assign rfl) rfl rfl ?_
  refine RL.nil (RC.back ?_)
  refine RC.seq ?_
  refine RC.seq ?_
  refine RC.region rfl ?_
  refine RL.ev (.move rfl) rfl rfl ?_
  refine RL.ev (.as (v' := .int .i64 ((reachA A [a, b]).length : Int)) (.len sl24 rfl) (by rw [List.length_map])) rfl rfl ?_
  refine RL.ev (.move rfl) rfl rfl ?_
  refine RL.ev (.as (v' := .int .i64 (V.length : Int)) (.len sl24 rfl) (by rw [List.length_map, hr1, hlP])) rfl rfl ?_
  refine RL.ev (.move rfl) rfl rfl ?_
  refine RL.ev (.as (v' := .int .i64 (U.length : Int)) (.len sl24 rfl) (by rw [List.length_map, hr2, hlQ])) rfl rfl ?_
  refine RL.ev (.as (.bin rfl rfl rfl) (wi64 (y := ((V.length + U.length : Nat) : Int)) (by omega) (by omega))) rfl rfl ?_
  refine RL.ev (.bin rfl rfl rfl) rfl rfl ?_
  refine RL.ev (.move rfl) rfl rfl ?_
  refine RL.split 43 rfl (fun h7 => ?_) (fun h7 => ?_)
  ·
    have q := h7
    refine RL.off rfl rfl ?_
    refine RL.off rfl rfl ?_
    refine RL.off rfl rfl ?_
    refine RL.ev (.pick_t rfl rfl) rfl rfl ?_
    refine RL.nil (RC.back ?_)
    refine RC.cond_t rfl ?_
    refine RC.seq ?_
    refine RC.region rfl ?_
    refine RL.ev (.assign rfl) rfl rfl ?_
    refine RL.ev (.assign rfl) rfl rfl ?_
    refine RL.nil (RC.back ?_)
    refine RC.done (rs := [.tmp 5, .tmp 6]) (vs := [_, _]) rfl rfl ⟨rfl, rfl, trivial⟩ ?_
    -- end 1
    exact ⟨(A, 0), 0, 5, C, rfl, zu0, hF, G, Up.refl _ _, .inl ⟨.inl (hdis.resolve_left (fun e => by have := hr3.1 e; omega)), rfl⟩⟩
  ·
    have q := Decidable.not_not.1 h7
    have hd : ∀ p ∈ P, ¬ p ∈ Q := hdis.resolve_right (fun e => by have := hr3.2 e; omega)
    refine RL.ev (.move rfl) rfl rfl ?_
    refine RL.ev (.as (v' := .int .i64 ((reachA A [a, b]).length : Int)) (.len sl24 rfl) (by rw [List.length_map])) rfl rfl ?_
    refine RL.ev (.bin rfl rfl rfl) rfl rfl ?_
    refine RL.ev (.pick_f rfl rfl) rfl rfl ?_
    refine RL.nil (RC.back ?_)
    refine RC.cond_dec rfl (fun h8 => ?_) (fun h8 => ?_)
    ·
      have q2 := h8
      refine RC.seq ?_
      refine RC.region rfl ?_
      refine RL.ev (.assign rfl) rfl rfl ?_
      refine RL.ev (.assign rfl) rfl rfl ?_
      refine RL.nil (RC.back ?_)
      refine RC.done (rs := [.tmp 5, .tmp 6]) (vs := [_, _]) rfl rfl ⟨rfl, rfl, trivial⟩ ?_
      -- end 2
      exact ⟨(A, 0), 0, 5, C, rfl, zu0, hF, G, Up.refl _ _, .inl ⟨.inr (by omega), rfl⟩⟩
    ·
      have q2 := h8
      refine RC.skip (RC.back ?_)
      refine RC.seq ?_
      refine RC.region rfl ?_
      refine RL.ev (.move rfl) rfl rfl ?_
      refine RL.ev (.load1 sh28 rfl (m4.cell rfl)) rfl rfl ?_
      refine RL.ev (.load1 sh28 rfl (m5.cell rfl)) rfl rfl ?_
      refine RL.call rfl ok38 (c_wmerge bf A hA 1000 a b V U P Q (A, 0) C w5 (by omega) (by decide) hV hU hd (Ext.refl _) (fun _ h => h) hA ha hb hF) rfl rfl ?_
      rintro _ w9 ⟨s1, C1, hg, ⟨r1, rfl, hu1, hi⟩, hF1, ag, up⟩
      have up := up.le G.size
      have G := G.trans ag
      refine RL.ev (.assign rfl) rfl rfl ?_
      refine RL.ev (.assign rfl) rfl rfl ?_
      refine RL.nil (RC.back ?_)
      refine RC.done (rs := [.tmp 5, .tmp 6]) (vs := [_, _]) rfl rfl ⟨rfl, rfl, trivial⟩ ?_
      -- end 3
      exact ⟨s1, r1, 0, C1, rfl, hu1, hF1, G, up, .inr ⟨hd, by omega, rfl, hg, fun h => by obtain ⟨M, hM, _⟩ := hi h; exact ⟨M, hM⟩⟩⟩
def ConP (A : Ar) (a b : Int) (B : Ar) (r' e : Int) : Prop :=
  (¬ (isRow A a ∧ isRow A b) → e = 1) ∧ (¬ e = 0 → B = ar0 ∧ r' = 0) ∧ ∀ V U P Q, isRow A a → isRow A b → IsR A a V P → IsR A b U Q → (((∃ p ∈ P, p ∈ Q) ∨ 200 < V.length + U.length) ∧ e = 5) ∨ ((∀ p ∈ P, ¬ p ∈ Q) ∧ V.length + U.length ≤ 200 ∧ e = 2 ∧ A.free.length < V.length + U.length) ∨
    ((∀ p ∈ P, ¬ p ∈ Q) ∧ V.length + U.length ≤ 200 ∧ e = 0 ∧ Ext A B ∧ AOk B ∧ A.free.length ≤ B.free.length + (V.length + U.length) ∧ ∃ M, IsR B r' (V ++ U) M)
theorem con_form {A B : Ar} {a b r' e : Int} {w w' : World} {V U P Q : List Int} (hm : isRow A a → IsR A a V P) (hm2 : isRow A b → IsR A b U Q) (h : CallR A [a, b] (fun s' r' e _ => ConJ A V U P Q s' r' e) (fun _ => False) w w' B r' e) : ConP A a b B r' e := by
  rcases h with ⟨h1, h2, h3, h4, _⟩ | ⟨h1, s', r0, e0, hJ, he, h3, h4⟩
  · exact ⟨fun _ => h2, fun _ => ⟨h3, h4⟩, fun V' U' P' Q' h h' => absurd (allRows_2.2 ⟨h, h'⟩) (by rw [h1]; simp)⟩
  · obtain ⟨hmap, hmap2⟩ := allRows_2.1 h1
    refine ⟨fun h => absurd ⟨hmap, hmap2⟩ h, h3, fun V' U' P' Q' _ _ hV' hU' => ?_⟩
    obtain ⟨rfl, rfl⟩ := hV'.unique (hm hmap)
    obtain ⟨rfl, rfl⟩ := hU'.unique (hm2 hmap2)
    rcases hJ.now with ⟨hb, h5⟩ | ⟨hd, hb, h5, hg, hi⟩
    · exact .inl ⟨hb, by rw [he, h5]; rfl⟩
    · rw [h5, if_pos rfl] at he
      by_cases h0 : s'.2 = 0
      · obtain ⟨rfl, rfl⟩ := h4 (by rw [he, h0])
        exact .inr (.inr ⟨hd, hb, by rw [he, h0], hg.gs.ext, hg.gs.ok, hg.gs.free, hi h0⟩)
      · have := hg.gs.full rfl h0
        exact .inr (.inl ⟨hd, hb, by rw [he, this.1], this.2⟩)
theorem c_dcon (A : Ar) (na fa : Option Addr) (nc fc : Nat) (hnc : A.nodes.length ≤ nc) (hfc : A.free.length ≤ fc) (a b : Int) (ha : U64 a) (hb : U64 b) (M : Nat → Prop) (w : World) (hA : Ft M (fun u => ArR u na fa A) w) :
    FC Try.prog 17 [arV na fa nc fc A, .int .u64 a, .int .u64 b] w (fun u w' => Sub w w' ∧ ArW M w w' (ConP A a b) u) := by
  obtain ⟨V, P, hm⟩ := rowsL A a
  obtain ⟨U, Q, hm2⟩ := rowsL A b
  refine FC.intro Try.func17 rfl Try.ntmps17 rfl ?_
  have S := Sub.refl w
  refine RC.seq ?_
  refine RC.region rfl ?_
  refine RL.box rfl rfl rfl (fun b_3 w_3 e_3 z_3 hb_3 s_3 => ?_)
  have ge_3 := S.le e_3
  have d_hA_b_3 := hA.neNew e_3
  have S := S.trans s_3
  have hA := hA.sub s_3
  have hb_3 : Has w_3 b_3 ([.slice na A.nodes.length nc, .slice fa A.free.length fc]) _ := hb_3
  refine RL.box rfl rfl rfl (fun b_4 w_4 e_4 z_4 hb_4 s_4 => ?_)
  have ge_4 := S.le e_4
  have n_3__4 := hb_3.ne e_4
  have d_hA_b_4 := hA.neNew e_4
  have S := S.trans s_4
  have hA := hA.sub s_4
  have hb_3 := hb_3.sub s_4
  refine RL.box rfl rfl rfl (fun b_5 w_5 e_5 z_5 hb_5 s_5 => ?_)
  have ge_5 := S.le e_5
  have n_3__5 := hb_3.ne e_5
  have n_4__5 := hb_4.ne e_5
  have d_hA_b_5 := hA.neNew e_5
  have S := S.trans s_5
  have hA := hA.sub s_5
  have hb_3 := hb_3.sub s_5
  have hb_4 := hb_4.sub s_5
  refine RL.alloc ze26 rfl rfl (fun b_6 w_6 e_6 z_6 hb_6 s_6 => ?_)
  have ge_6 := S.le e_6
  have n_3__6 := hb_3.ne e_6
  have n_4__6 := hb_4.ne e_6
  have n_5__6 := hb_5.ne e_6
  have d_hA_b_6 := hA.neNew e_6
  have S := S.trans s_6
  have hA := hA.sub s_6
  have hb_3 := hb_3.sub s_6
  have hb_4 := hb_4.sub s_6
  have hb_5 := hb_5.sub s_6
  refine RL.ev (.assign rfl) rfl rfl ?_
  refine RL.ev (.assign rfl) rfl rfl ?_
  refine RL.nil (RC.back ?_)
  refine RC.seq ?_
  refine RC.region rfl ?_
  refine RL.ev (.loadR ([.slice na A.nodes.length nc, .slice fa A.free.length fc]) sh26 rfl hb_3.row rfl) rfl rfl ?_
  refine RL.ev (.load1 sh28 rfl (hb_4.cell rfl)) rfl rfl ?_
  refine RL.ev (.load1 sh28 rfl (hb_5.cell rfl)) rfl rfl ?_
  refine RL.buildSliceN (vs := [_, _]) sl61 _ ze28 rfl ⟨rfl, rfl, trivial⟩ rfl rfl rfl rfl rfl rfl (fun b_12 w_12 e_12 z_12 hb_12 s_12 => ?_)
  have ge_12 := S.le e_12
  have n_3__12 := hb_3.ne e_12
  have n_4__12 := hb_4.ne e_12
  have n_5__12 := hb_5.ne e_12
  have n_6__12 := hb_6.ne e_12
  have d_hA_b_12 := hA.neNew e_12
  have S := S.trans s_12
  have hA := hA.sub s_12
  have hb_3 := hb_3.sub s_12
  have hb_4 := hb_4.sub s_12
  have hb_5 := hb_5.sub s_12
  have hb_6 := hb_6.sub s_12
  refine RL.ev (.func (xs := []) (ys := [_, _, _]) rfl rfl) rfl rfl ?_
  refine RL.call rfl ok28 (c_dcall 36 ok36 [.pointer (some ⟨b_3, 0, none⟩), .pointer (some ⟨b_4, 0, none⟩), .pointer (some ⟨b_5, 0, none⟩)] A na fa nc fc hnc hfc [a, b] (some ⟨b_12, 0, none⟩) 2 2 rfl (Nat.le_of_ble_eq_true rfl) (fun x hx => by simp only [List.mem_cons, List.not_mem_nil, or_false] at hx; rcases hx with rfl | rfl; exact ha; exact hb) (fun _ => False) M (fun s' r' e _ => ConJ A V U P Q s' r' e) w_12 hA (pair_rows hb_12) (fun _ h => h.elim) (fun hyes bf C w1 s1 hbf hF _ => FC.mono (c_dcon1 A na fa nc fc a b ha hb V U P Q (allRows_2.1 hyes).1.1 (hm (allRows_2.1 hyes).1) (hm2 (allRows_2.1 hyes).2) (isRow_len (allRows_2.1 hyes).1 (hm (allRows_2.1 hyes).1)) (isRow_len (allRows_2.1 hyes).2 (hm2 (allRows_2.1 hyes).2)) bf b_3 b_4 b_5 C w1 hF (hb_3.sub s1) (hb_4.sub s1) (hb_5.sub s1) (hA.now.sub s1)) (fun u w2 ⟨s', r', e, C', h1, h2, h3, h4, h5, h6⟩ => ⟨s', r', e, C', h1, h2, h3, h4.mono fun k _ e => .inl e, h5, wft_pure h6⟩))) rfl rfl ?_
  rintro _ w1 ⟨ag, na', fa', nc', fc', B, r', e, M', rfl, hu, hnc', hfc', hA', hup, hcp⟩
  have dB6 : ∀ k, M' k → k ≠ b_6 := (fun k hk e => hup.not hb_6.lt (fun e' => d_hA_b_6 _ e' rfl) (e ▸ hk))
  have hup := hup.le S.size
  have S := S.trans ag.sub
  have hA := hA.sub ag.sub
  have hb_3 := hb_3.sub ag.sub
  have hb_4 := hb_4.sub ag.sub
  have hb_5 := hb_5.sub ag.sub
  have hb_6 := hb_6.sub ag.sub
  have hb_12 := hb_12.sub ag.sub
  have hpp := con_form hm hm2 hcp
  refine RL.ev (.extract rfl rfl) rfl rfl ?_
  refine RL.ev (.extract rfl rfl) rfl rfl ?_
  refine RL.ev (.extract rfl rfl) rfl rfl ?_
  refine RL.store sh26 rfl rfl rfl hb_6 (by exact Nat.le_of_ble_eq_true rfl) (by rfl) rfl (fun w3 z3 hb_6 a3 => ?_)
  have S := S.upd a3 ge_6
  have hb_3 := hb_3.upd a3 n_3__6
  have hb_4 := hb_4.upd a3 n_4__6
  have hb_5 := hb_5.upd a3 n_5__6
  have hb_12 := hb_12.upd a3 n_6__12.symm
  have hA' := hA'.updD a3 dB6
  have hb_6 : Has w3 b_6 ([.slice na' B.nodes.length nc', .slice fa' B.free.length fc']) _ := hb_6.now (by kernel_rfl)
  refine RL.ev (.assign rfl) rfl rfl ?_
  refine RL.ev (.assign rfl) rfl rfl ?_
  refine RL.nil (RC.back ?_)
  refine RC.done (rs := [.cell 6 26, .tmp 7, .tmp 8]) (vs := [_, _, _]) rfl rfl ⟨⟨_, rfl, .inr ⟨[.slice na' B.nodes.length nc', .slice fa' B.free.length fc'], sh26, hb_6.row, rfl⟩⟩, rfl, rfl, trivial⟩ ?_
  -- end 1
  exact ⟨S, na', fa', nc', fc', B, r', e, M', rfl, hu, hnc', hfc', hA', hup, hpp⟩
end Go.Proofs.Ytefakjhfcgjhgaa
