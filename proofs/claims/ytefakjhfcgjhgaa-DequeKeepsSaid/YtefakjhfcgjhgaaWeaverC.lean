/-
  deque.call, and what it hands on.
-/
import Derived.Test.YtefakjhfcgjhgaaWeaverR
set_option linter.unusedVariables false
set_option linter.unusedSimpArgs false
namespace Go.Proofs.Ytefakjhfcgjhgaa
open Go Go.XL

/-- what a call answers: an arena, a reference, what is wrong -/
def CallR (A : Ar) (l : List Int) (J : St → Int → Int → World → Prop) (D : Nat → Prop) (w w' : World) (B : Ar) (r e : Int) : Prop :=
  (allRows A l = false ∧ e = 1 ∧ B = ar0 ∧ r = 0 ∧ Sub w w') ∨ allRows A l = true ∧ ∃ s' r0 e0, Ft D (J s' r0 e0) w' ∧ e = (if e0 = 0 then s'.2 else e0) ∧ (¬ e = 0 → B = ar0 ∧ r = 0) ∧ (e = 0 → B = s'.1 ∧ r = r0)
def ArW (M : Nat → Prop) (w w' : World) (J : Ar → Int → Int → Prop) (v : Value) : Prop :=
  ∃ na fa nc fc B r e M', v = .tuple #[arV na fa nc fc B, .int .u64 r, .int .i64 e] ∧ U64 r ∧ B.nodes.length ≤ nc ∧ B.free.length ≤ fc ∧ Ft M' (fun u => ArR u na fa B) w' ∧ Up M w M' ∧ J B r e
set_option maxHeartbeats 1000000 in
theorem c_dcall (f : FuncId) (hf : calleeOK Try.prog f = true) (cs : List Value) (A : Ar) (na fa : Option Addr) (nc fc : Nat) (hnc : A.nodes.length ≤ nc) (hfc : A.free.length ≤ fc) (l : List Int) (pa : Option Addr) (m pc : Nat) (hm : m = l.length) (hl : l.length ≤ 10000) (hli : ∀ x ∈ l, U64 x)
    (D M : Nat → Prop) (J : St → Int → Int → World → Prop) (w : World) (hA : Ft M (fun u => ArR u na fa A) w) (hP : Sl w pa 1 (l.map fun x => [u6 x])) (hD : ∀ k, D k → k < w.heap.size)
    (hT : allRows A l = true → ∀ (bf : Nat) (C : Nat → Prop) (w1 : World), Sub w w1 → w.heap.size ≤ bf → Ft C (Wo bf (A, 0) C) w1 → (∀ k, C k → k = bf ∨ M k) →
      FC Try.prog f ([.pointer (some ⟨bf, 0, none⟩)] ++ cs) w1 (fun v w2 => ∃ s' r e C', v = .tuple #[.int .u64 r, .int .i64 e] ∧ U64 r ∧ Ft C' (Wo bf s' C') w2 ∧ Agr (fun k => k = bf ∨ D k) w1 w2 ∧ Up C w1 C' ∧ Ft D (J s' r e) w2)) :
    FC Try.prog 28 [arV na fa nc fc A, .slice pa m pc, .func (.func f) #[] cs.toArray] w (fun v w' => Agr D w w' ∧ ArW M w w' (CallR A l J D w w') v) := by
  subst hm
  refine FC.intro Try.func28 rfl Try.ntmps28 rfl ?_
  have S := Sub.refl w
  have G : Agr D w w := Agr.refl _ _
  refine RC.seq ?_
  refine RC.region rfl ?_
  refine RL.box rfl rfl rfl (fun b_3 w_3 e_3 z_3 hb_3 s_3 => ?_)
  have ge_3 := S.le e_3
  have d_hA_b_3 := hA.neNew e_3
  have S := S.trans s_3
  have geG_3 := agLe G e_3
  have G := G.trans s_3.agr
  have hA := hA.sub s_3
  have hb_3 : Has w_3 b_3 ([.slice na A.nodes.length nc, .slice fa A.free.length fc]) _ := hb_3
  refine RL.alloc ze26 rfl rfl (fun b_6 w_6 e_6 z_6 hb_6 s_6 => ?_)
  have ge_6 := S.le e_6
  have n_3__6 := hb_3.ne e_6
  have d_hA_b_6 := hA.neNew e_6
  have S := S.trans s_6
  have geG_6 := agLe G e_6
  have G := G.trans s_6.agr
  have hA := hA.sub s_6
  have hb_3 := hb_3.sub s_6
  refine RL.ev (.assign rfl) rfl rfl ?_
  refine RL.ev (.assign rfl) rfl rfl ?_
  refine RL.nil (RC.back ?_)
  refine RC.seq ?_
  refine RC.seq ?_
  refine RC.region rfl ?_
  refine RL.ev (.loadR ([.slice na A.nodes.length nc, .slice fa A.free.length fc]) sh26 rfl hb_3.row rfl) rfl rfl ?_
  refine RL.ev (.move rfl) rfl rfl ?_
  refine RL.call rfl ok42 (c_dright A na fa nc fc hnc hfc l l.length rfl pa pc hl hli w_6 hA.now (hP.sub S)) rfl rfl ?_
  rintro _ w1 ⟨rfl, s2⟩
  have S := S.trans s2
  have G := G.trans s2.agr
  have hA := hA.sub s2
  have hb_3 := hb_3.sub s2
  have hb_6 := hb_6.sub s2
  refine RL.ev (.not rfl) rfl rfl ?_
  refine RL.nil (RC.back ?_)
  refine RC.cond rfl (fun h3 => ?_) (fun h3 => ?_)
  ·
    have hno : allRows A l = false := (by simpa using h3)
    refine RC.seq ?_
    refine RC.region rfl ?_
    refine RL.ev (.buildS ze26 pl26 rfl rfl) rfl rfl ?_
    refine RL.store sh26 rfl rfl rfl hb_6 (by exact Nat.le_of_ble_eq_true rfl) (by rfl) rfl (fun w4 z4 hb_6 a4 => ?_)
    have S := S.upd a4 ge_6
    have G := agNew G a4 geG_6
    have hA := hA.updD a4 d_hA_b_6
    have hb_3 := hb_3.upd a4 n_3__6
    have hb_6 : Has w4 b_6 ([.slice none 0 0, .slice none 0 0]) _ := hb_6.now (by kernel_rfl)
    refine RL.ev (.assign rfl) rfl rfl ?_
    refine RL.ev (.assign rfl) rfl rfl ?_
    refine RL.nil (RC.back ?_)
    refine RC.done (rs := [.cell 6 26, .tmp 7, .tmp 8]) (vs := [_, _, _]) rfl rfl ⟨⟨_, rfl, .inr ⟨[.slice none 0 0, .slice none 0 0], sh26, hb_6.row, rfl⟩⟩, rfl, rfl, trivial⟩ ?_
    -- end 1
    exact ⟨G, none, none, 0, 0, ar0, 0, 1, fun _ => False, rfl, zu0, by decide, by decide, ⟨fun _ h => h.elim, fun _ _ => ⟨Sl.nil _ _ _, Sl.nil _ _ _, by simp [ar0], by simp [ar0]⟩⟩, fun _ h => h.elim, .inl ⟨hno, rfl, rfl, rfl, S⟩⟩
  ·
    have hyes : allRows A l = true := (by simpa using h3)
    refine RC.skip (RC.back ?_)
    refine RC.seq ?_
    refine RC.region rfl ?_
    refine RL.ev (.loadR ([.slice na A.nodes.length nc, .slice fa A.free.length fc]) sh26 rfl hb_3.row rfl) rfl rfl ?_
    refine RL.ev (.buildS ze84 pl84 rfl rfl) rfl rfl ?_
    refine RL.box rfl rfl rfl (fun b_19 w_19 e_19 z_19 hb_19 s_19 => ?_)
    have ge_19 := S.le e_19
    have n_3__19 := hb_3.ne e_19
    have n_6__19 := hb_6.ne e_19
    have d_hA_b_19 := hA.neNew e_19
    have S := S.trans s_19
    have geG_19 := agLe G e_19
    have G := G.trans s_19.agr
    have hA := hA.sub s_19
    have hb_3 := hb_3.sub s_19
    have hb_6 := hb_6.sub s_19
    have hb_19 : Has w_19 b_19 (wvC na fa nc fc A 0) 84 := hb_19
    have hF := FoG.ft (s := (A, 0)) hb_19 hnc hfc hA (fun e => d_hA_b_19 _ e rfl)
    refine RL.ev (.assign rfl) rfl rfl ?_
    refine RL.nil (RC.back ?_)
    refine RC.seq ?_
    refine RC.region rfl ?_
    refine RL.ev (.move rfl) rfl rfl ?_
    refine RL.ev (.move rfl) rfl rfl ?_
    refine RL.callv rfl rfl (us := []) (cs := cs) hf (hT hyes b_19 _ w_19 S ge_19 hF (fun _ h => h)) rfl rfl ?_
    rintro _ w5 ⟨s', r, e, C', rfl, hu, hF1, ag, up, hJ⟩
    have hsz := G.size
    have hD6 : ∀ k, D k → k ≠ b_6 := fun k hk e => by have := hD k hk; omega
    have hnC6 : ¬ (b_6 = b_19 ∨ M b_6) := (fun e => e.elim n_6__19 (fun e => d_hA_b_6 _ e rfl))
    have hC6 : ∀ k, C' k → k ≠ b_6 := fun k hk e => up.not hb_6.lt hnC6 (e ▸ hk)
    have hb_6 := hb_6.step ag (fun e => e.elim n_6__19 (fun e => hD6 _ e rfl))
    have G := agNew2 G ag ge_19
    obtain ⟨_, na', fa', nc', fc', M', hb_19, hnc', hfc', hA', hMb', hMC'⟩ := hF1.now
    have hup : Up M w M' := (fun k hk => by rcases up k (hMC' k hk) with (e | e) | e <;> first | exact .inl e | exact .inr (by omega))
    have dA6 : ∀ k, M' k → k ≠ b_6 := fun k hk => hC6 k (hMC' k hk)
    refine RL.ev (.move rfl) rfl rfl ?_
    refine RL.ev (.extract rfl rfl) rfl rfl ?_
    refine RL.ev (.extract rfl rfl) rfl rfl ?_
    refine RL.ev (.assign rfl) rfl rfl ?_
    refine RL.ev (.assign rfl) rfl rfl ?_
    refine RL.nil (RC.back ?_)
    refine RC.seq ?_
    refine RC.seq ?_
    refine RC.region rfl ?_
    refine RL.ev (.move rfl) rfl rfl ?_
    refine RL.ev (.bin rfl rfl rfl) rfl rfl ?_
    refine RL.nil (RC.back ?_)
    refine RC.cond_dec rfl (fun h7 => ?_) (fun h7 => ?_)
    ·
      have he := h7
      refine RC.region rfl ?_
      refine RL.ev (.move rfl) rfl rfl ?_
      refine RL.ev (.nilCheck rfl) rfl rfl ?_
      refine RL.ev (.field0 fo84_1 rfl) rfl rfl ?_
      refine RL.ev (.load1 sh31 rfl (hb_19.cell rfl)) rfl rfl ?_
      refine RL.ev (.assign rfl) rfl rfl ?_
      refine RL.nil (RC.back ?_)
      refine RC.seq ?_
      refine RC.seq ?_
      refine RC.region rfl ?_
      refine RL.ev (.move rfl) rfl rfl ?_
      refine RL.ev (.bin rfl rfl rfl) rfl rfl ?_
      refine RL.nil (RC.back ?_)
      refine RC.cond_dec rfl (fun h8 => ?_) (fun h8 => ?_)
      ·
        have hz := h8
        refine RC.seq ?_
        refine RC.region rfl ?_
        refine RL.ev (.buildS ze26 pl26 rfl rfl) rfl rfl ?_
        refine RL.ev (.move rfl) rfl rfl ?_
        refine RL.store sh26 rfl rfl rfl hb_6 (by exact Nat.le_of_ble_eq_true rfl) (by rfl) rfl (fun w9 z9 hb_6 a9 => ?_)
        have G := agNew G a9 geG_6
        have hb_19 := hb_19.upd a9 n_6__19.symm
        have hA' := hA'.updD a9 dA6
        have hJ := hJ.updD a9 hD6
        have hb_6 : Has w9 b_6 ([.slice none 0 0, .slice none 0 0]) _ := hb_6.now (by kernel_rfl)
        refine RL.ev (.assign rfl) rfl rfl ?_
        refine RL.ev (.assign rfl) rfl rfl ?_
        refine RL.nil (RC.back ?_)
        refine RC.done (rs := [.cell 6 26, .tmp 7, .tmp 8]) (vs := [_, _, _]) rfl rfl ⟨⟨_, rfl, .inr ⟨[.slice none 0 0, .slice none 0 0], sh26, hb_6.row, rfl⟩⟩, rfl, rfl, trivial⟩ ?_
        -- end 2
        exact ⟨G, none, none, 0, 0, ar0, 0, s'.2, fun _ => False, rfl, zu0, by decide, by decide, ⟨fun _ h => h.elim, fun _ _ => ⟨Sl.nil _ _ _, Sl.nil _ _ _, by simp [ar0], by simp [ar0]⟩⟩, fun _ h => h.elim, .inr ⟨hyes, s', r, e, hJ, by rw [if_pos he], fun _ => ⟨rfl, rfl⟩, fun h => absurd h hz⟩⟩
      ·
        have hz := h8
        refine RC.skip (RC.back ?_)
        refine RC.seq ?_
        refine RC.region rfl ?_
        refine RL.ev (.move rfl) rfl rfl ?_
        refine RL.ev (.nilCheck rfl) rfl rfl ?_
        refine RL.ev (.field0 fo84_0 rfl) rfl rfl ?_
        refine RL.ev (.loadR (wvA na' fa' nc' fc' s'.1) sh26 rfl (row_pref (xs := wvA na' fa' nc' fc' s'.1) (ys := [.int .i64 s'.2]) hb_19) rfl) rfl rfl ?_
        refine RL.ev (.move rfl) rfl rfl ?_
        refine RL.store sh26 rfl rfl rfl hb_6 (by exact Nat.le_of_ble_eq_true rfl) (by rfl) rfl (fun w10 z10 hb_6 a10 => ?_)
        have G := agNew G a10 geG_6
        have hb_19 := hb_19.upd a10 n_6__19.symm
        have hA' := hA'.updD a10 dA6
        have hJ := hJ.updD a10 hD6
        have hb_6 : Has w10 b_6 (wvA na' fa' nc' fc' s'.1) _ := hb_6.now (by kernel_rfl)
        refine RL.ev (.assign rfl) rfl rfl ?_
        refine RL.ev (.assign rfl) rfl rfl ?_
        refine RL.nil (RC.back ?_)
        refine RC.done (rs := [.cell 6 26, .tmp 7, .tmp 8]) (vs := [_, _, _]) rfl rfl ⟨⟨_, rfl, .inr ⟨wvA na' fa' nc' fc' s'.1, sh26, hb_6.row, rfl⟩⟩, rfl, rfl, trivial⟩ ?_
        -- end 3
        exact ⟨G, na', fa', nc', fc', s'.1, r, 0, M', rfl, hu, hnc', hfc', hA', hup, .inr ⟨hyes, s', r, e, hJ, by rw [if_pos he]; omega, fun h => absurd rfl h, fun _ => ⟨rfl, rfl⟩⟩⟩
    ·
      have he := h7
      refine RC.skip (RC.back ?_)
      refine RC.seq ?_
      refine RC.seq ?_
      refine RC.region rfl ?_
      refine RL.ev (.move rfl) rfl rfl ?_
      refine RL.ev (.bin rfl rfl rfl) rfl rfl ?_
      refine RL.nil (RC.back ?_)
      refine RC.cond_dec rfl (fun h11 => ?_) (fun h11 => ?_)
      ·
        have hz := h11
        refine RC.seq ?_
        refine RC.region rfl ?_
        refine RL.ev (.buildS ze26 pl26 rfl rfl) rfl rfl ?_
        refine RL.ev (.move rfl) rfl rfl ?_
        refine RL.store sh26 rfl rfl rfl hb_6 (by exact Nat.le_of_ble_eq_true rfl) (by rfl) rfl (fun w12 z12 hb_6 a12 => ?_)
        have G := agNew G a12 geG_6
        have hb_19 := hb_19.upd a12 n_6__19.symm
        have hA' := hA'.updD a12 dA6
        have hJ := hJ.updD a12 hD6
        have hb_6 : Has w12 b_6 ([.slice none 0 0, .slice none 0 0]) _ := hb_6.now (by kernel_rfl)
        refine RL.ev (.assign rfl) rfl rfl ?_
        refine RL.ev (.assign rfl) rfl rfl ?_
        refine RL.nil (RC.back ?_)
        refine RC.done (rs := [.cell 6 26, .tmp 7, .tmp 8]) (vs := [_, _, _]) rfl rfl ⟨⟨_, rfl, .inr ⟨[.slice none 0 0, .slice none 0 0], sh26, hb_6.row, rfl⟩⟩, rfl, rfl, trivial⟩ ?_
        -- end 4
        exact ⟨G, none, none, 0, 0, ar0, 0, e, fun _ => False, rfl, zu0, by decide, by decide, ⟨fun _ h => h.elim, fun _ _ => ⟨Sl.nil _ _ _, Sl.nil _ _ _, by simp [ar0], by simp [ar0]⟩⟩, fun _ h => h.elim, .inr ⟨hyes, s', r, e, hJ, by rw [if_neg he], fun _ => ⟨rfl, rfl⟩, fun h => absurd h hz⟩⟩
      ·
        have hz := h11
        refine RC.skip (RC.back ?_)
        refine RC.seq ?_
        refine RC.region rfl ?_
        refine RL.ev (.move rfl) rfl rfl ?_
        refine RL.ev (.nilCheck rfl) rfl rfl ?_
        refine RL.ev (.field0 fo84_0 rfl) rfl rfl ?_
        refine RL.ev (.loadR (wvA na' fa' nc' fc' s'.1) sh26 rfl (row_pref (xs := wvA na' fa' nc' fc' s'.1) (ys := [.int .i64 s'.2]) hb_19) rfl) rfl rfl ?_
        refine RL.ev (.move rfl) rfl rfl ?_
        refine RL.store sh26 rfl rfl rfl hb_6 (by exact Nat.le_of_ble_eq_true rfl) (by rfl) rfl (fun w13 z13 hb_6 a13 => ?_)
        have G := agNew G a13 geG_6
        have hb_19 := hb_19.upd a13 n_6__19.symm
        have hA' := hA'.updD a13 dA6
        have hJ := hJ.updD a13 hD6
        have hb_6 : Has w13 b_6 (wvA na' fa' nc' fc' s'.1) _ := hb_6.now (by kernel_rfl)
        refine RL.ev (.assign rfl) rfl rfl ?_
        refine RL.ev (.assign rfl) rfl rfl ?_
        refine RL.nil (RC.back ?_)
        refine RC.done (rs := [.cell 6 26, .tmp 7, .tmp 8]) (vs := [_, _, _]) rfl rfl ⟨⟨_, rfl, .inr ⟨wvA na' fa' nc' fc' s'.1, sh26, hb_6.row, rfl⟩⟩, rfl, rfl, trivial⟩ ?_
        -- end 5
        exact absurd he hz
end Go.Proofs.Ytefakjhfcgjhgaa
