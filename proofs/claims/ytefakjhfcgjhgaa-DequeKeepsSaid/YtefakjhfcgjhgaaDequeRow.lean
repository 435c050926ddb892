/-
  deque.Row, Size, At, walked.
-/
import Derived.Test.YtefakjhfcgjhgaaDequeMk2
set_option linter.unusedVariables false
set_option linter.unusedSimpArgs false
namespace Go.Proofs.Ytefakjhfcgjhgaa
open Go Go.XL

theorem Ft.self {M : Nat → Prop} {I : World → Prop} {w : World} (h : Ft M I w) : Ft M (fun u => Ft M I u) w := ⟨h.lt, fun u a => h.step a (fun k hk hn => hn hk)⟩
theorem _root_.Go.XL.Has.ft {w : World} {b e : Nat} {cs : List Value} (h : Has w b cs e) : Ft (· = b) (fun u => Has u b cs e) w := ⟨fun k hk => hk ▸ h.lt, fun u a => h.step a (fun hn => hn rfl)⟩
def rowFn (b6 b8 b7 : Nat) : Value := .func (.func 33) #[] #[.pointer (some ⟨b6, 0, none⟩), .pointer (some ⟨b8, 0, none⟩), .pointer (some ⟨b7, 0, none⟩)]
structure RW (w0 : World) (E b6 b8 b7 b15 : Nat) (C : Nat → Prop) (A : Ar) (out : List Int) (a : Option Addr) (c : Nat) (w : World) : Prop where
  h6 : Has w b6 [.pointer (some ⟨b15, 0, none⟩)] 70
  h8 : Has w b8 [rowFn b6 b8 b7] 85
  h7 : Has w b7 [.slice a (out.map fun x => [i6 x]).length c] 22
  hF : Ft C (Wo b15 (A, 0) C) w
  o : Ows E w 2 1 (.slice a (out.map fun x => [i6 x]).length c) (out.map fun x => [i6 x])
  sz : E ≤ w.heap.size
  S : Sub w0 w
structure RWok (w0 : World) (E b6 b8 b7 : Nat) (C : Nat → Prop) : Prop where
  l6 : b6 < E
  l8 : b8 < E
  l7 : b7 < E
  n67 : b6 ≠ b7
  n87 : b8 ≠ b7
  dC : ∀ k, C k → k ≠ b7
  dE : ∀ k, C k → k < E
  g7 : w0.heap.size ≤ b7
  gE : w0.heap.size ≤ E
set_option maxHeartbeats 1000000 in
theorem c_drow1 (w0 : World) (E b6 b8 b7 b15 : Nat) (C : Nat → Prop) (hB : RWok w0 E b6 b8 b7 C) (A : Ar) {r : Int} {V P : List Int} (hV : IsR A r V P) : ∀ (out : List Int) (a : Option Addr) (c : Nat) (K : Nat → Prop) (I : World → Prop) (w : World), U64 r → out.length + V.length ≤ 1000 → RW w0 E b6 b8 b7 b15 C A out a c w → Ft K I w → (∀ k, K k → k ≠ b7) → (∀ k, ob (.slice a (out.map fun x => [i6 x]).length c) = some k → K k → False) →
    FC Try.prog 33 [.int .u64 r, .pointer (some ⟨b6, 0, none⟩), .pointer (some ⟨b8, 0, none⟩), .pointer (some ⟨b7, 0, none⟩)] w (fun _ w' => ∃ a' c', RW w0 E b6 b8 b7 b15 C A (out ++ V) a' c' w' ∧ Ft K I w' ∧ ∀ k, ob (.slice a' ((out ++ V).map fun x => [i6 x]).length c') = some k → K k → False) := by
  obtain ⟨l6, l8, l7, n67, n87, dC, dE, g7, gE⟩ := hB
  induction hV with
  | nil =>
    intro out a c K I w hr hl hs hI hK7 hKo
    refine FC.intro Try.func33 rfl Try.ntmps33 rfl ?_
    refine RC.seq ?_
    refine RC.seq ?_
    refine RC.region rfl ?_
    refine RL.ev (.move rfl) rfl rfl ?_
    refine RL.ev (.bin rfl rfl rfl) rfl rfl ?_
    refine RL.nil (RC.back ?_)
    refine RC.cond_dec rfl (fun h1 => ?_) (fun h1 => ?_)
    ·
      refine RC.done (rs := []) (vs := []) rfl rfl trivial ?_
      -- end 1
      rw [List.append_nil]
      exact ⟨a, c, hs, hI, hKo⟩
    ·
      exact absurd rfl h1
  | @node r g v ra rb L R P Q t1 t2 t3 t4 ih1 ih2 =>
    intro out a c K I w hr hl hs hI hK7 hKo
    obtain ⟨x, hx, hxv, hxa, hxb⟩ : ∃ x, getA A r = some x ∧ x.v = v ∧ x.k0 = ra ∧ x.k1 = rb := ⟨_, t1, rfl, rfl, rfl⟩
    obtain ⟨q6, q8, q7, hF, o, szB, S⟩ := hs
    have hgx := getN_yes hx
    have hxo := hF.now.nok x (getA_nok hx)
    have hr0 : ¬ r = 0 := fun e => by rw [e, getA_00] at hx; cases hx
    have hk0 : U64 x.k0 := hxo.kids _ (by simp [Node.kids])
    have hk1 : U64 x.k1 := hxo.kids _ (by simp [Node.kids])
    clear t1
    subst hxv hxa hxb
    rw [List.length_append, List.length_cons] at hl
    have ge7 := g7
    have ge6 : True := trivial
    refine FC.intro Try.func33 rfl Try.ntmps33 rfl ?_
    have doF : ∀ k, ob (.slice a (out.map fun x => [i6 x]).length c) = some k → C k → False := (fun k h1 h2 => by have := (o.ge k h1).1; have := dE k h2; omega)
    refine RC.seq ?_
    refine RC.seq ?_
    refine RC.region rfl ?_
    refine RL.ev (.move rfl) rfl rfl ?_
    refine RL.ev (.bin rfl rfl rfl) rfl rfl ?_
    refine RL.nil (RC.back ?_)
    refine RC.cond_dec rfl (fun h1 => ?_) (fun h1 => ?_)
    ·
      exact absurd h1 hr0
    ·
      refine RC.skip (RC.back ?_)
      refine RC.seq ?_
      refine RC.region rfl ?_
      refine RL.ev (.load1 sh70 rfl (q6.cell rfl)) rfl rfl ?_
      refine RL.ev (.move rfl) rfl rfl ?_
      refine RL.call rfl ok30 ((hgx ▸ c_wget b15 (A, 0) C r hr w hF)) rfl rfl ?_
      rintro _ w2 ⟨rfl, s3⟩
      have S := S.trans s3
      have q6 := q6.sub s3
      have q8 := q8.sub s3
      have q7 := q7.sub s3
      have hF := hF.sub s3
      have o := o.sub s3
      have hI := hI.sub s3
      have szB := Nat.le_trans szB s3.size
      refine RL.alloc ze73 rfl rfl (fun b_5 w_5 e_5 z_5 hb_5 s_5 => ?_)
      have ge_5 := S.le e_5
      have n6__5 := q6.ne e_5
      have n8__5 := q8.ne e_5
      have n7__5 := q7.ne e_5
      have d_hF_b_5 := hF.neNew e_5
      have d_o_b_5 := o.neNew e_5
      have d_hI_b_5 := hI.neNew e_5
      have S := S.trans s_5
      have q6 := q6.sub s_5
      have q8 := q8.sub s_5
      have q7 := q7.sub s_5
      have hF := hF.sub s_5
      have o := o.sub s_5
      have hI := hI.sub s_5
      have szB := Nat.le_trans szB s_5.size
      refine RL.store sh73 rfl rfl rfl hb_5 (by exact Nat.le_of_ble_eq_true rfl) (by rfl) rfl (fun w4 z4 hb_5 a4 => ?_)
      have S := S.upd a4 ge_5
      have q6 := q6.upd a4 n6__5
      have q8 := q8.upd a4 n8__5
      have q7 := q7.upd a4 n7__5
      have hF := hF.updD a4 d_hF_b_5
      have o := o.updD a4 d_o_b_5
      have hI := hI.updD a4 d_hI_b_5
      have szB := Nat.le_trans szB a4.size
      have hb_5 : Has w4 b_5 (x.cells) _ := hb_5.now (by kernel_rfl)
      refine RL.nil (RC.back ?_)
      refine RC.seq ?_
      refine RC.region rfl ?_
      refine RL.ev (.load1 sh85 rfl (q8.cell rfl)) rfl rfl ?_
      refine RL.ev (.field0 fo73_5 rfl) rfl rfl ?_
      refine RL.ev (.indexArr ar71 rfl rfl (by omega)) rfl rfl ?_
      refine RL.ev (.load1 sh28 rfl (hb_5.cell rfl)) rfl rfl ?_
      refine RL.callv rfl rfl (us := []) (cs := [.pointer (some ⟨b6, 0, none⟩), .pointer (some ⟨b8, 0, none⟩), .pointer (some ⟨b7, 0, none⟩)]) ok33 (ih1 out a c (fun k => K k ∨ k = b_5) (fun u => Ft K I u ∧ Has u b_5 x.cells 73) w4 hk0 (by omega) ⟨q6, q8, q7, hF, o, szB, S⟩ (hI.self.and hb_5.ft) (fun k hk => hk.elim (hK7 k) (fun e e2 => by omega)) (fun k h1 h2 => h2.elim (hKo k h1) (fun e => d_o_b_5 k h1 e))) rfl rfl ?_
      rintro _ w5 ⟨a2, c2, ⟨q6, q8, q7, hF, o, szB, S⟩, hI2, hKo2⟩
      have hI := hI2.now.1
      have hb_5 := hI2.now.2
      have hKo3 : ∀ k, ob (.slice a2 ((out ++ L).map fun x => [i6 x]).length c2) = some k → K k → False := (fun k h1 h2 => hKo2 k h1 (.inl h2))
      have d_o2_5 : ∀ k, ob (.slice a2 ((out ++ L).map fun x => [i6 x]).length c2) = some k → k ≠ b_5 := (fun k h1 h2 => hKo2 k h1 (.inr h2))
      have doF2 : ∀ k, ob (.slice a2 ((out ++ L).map fun x => [i6 x]).length c2) = some k → C k → False := (fun k h1 h2 => by have := (o.ge k h1).1; have := dE k h2; omega)
      obtain ⟨O, hO⟩ : ∃ O, O = out ++ L := ⟨_, rfl⟩
      rw [← hO] at q7 o hKo3 d_o2_5 doF2
      have hOl : O.length = out.length + L.length := (by rw [hO, List.length_append])
      have do6 : ∀ k, ob (.slice a2 (O.map fun x => [i6 x]).length c2) = some k → k ≠ b6 := (fun k hk e => by have := (o.ge k hk).1; omega)
      have do8 : ∀ k, ob (.slice a2 (O.map fun x => [i6 x]).length c2) = some k → k ≠ b8 := (fun k hk e => by have := (o.ge k hk).1; omega)
      have do7 : ∀ k, ob (.slice a2 (O.map fun x => [i6 x]).length c2) = some k → k ≠ b7 := (fun k hk e => by have := (o.ge k hk).1; omega)
      refine RL.nil (RC.back ?_)
      refine RC.seq ?_
      refine RC.region rfl ?_
      refine RL.ev (.load1 sh22 rfl (q7.cell rfl)) rfl rfl ?_
      refine RL.ev (.field0 fo73_3 rfl) rfl rfl ?_
      refine RL.ev (.load1 sh2 rfl (hb_5.cell rfl)) rfl rfl ?_
      refine RL.buildSlice1 sl22 _ ze2 rfl rfl rfl rfl rfl rfl rfl (fun b_19 w_19 e_19 z_19 hb_19 s_19 => ?_)
      have ge_19 := S.le e_19
      have n6__19 := q6.ne e_19
      have n8__19 := q8.ne e_19
      have n7__19 := q7.ne e_19
      have n_5__19 := hb_5.ne e_19
      have d_hF_b_19 := hF.neNew e_19
      have d_o_b_19 := o.neNew e_19
      have d_hI_b_19 := hI.neNew e_19
      have S := S.trans s_19
      have q6 := q6.sub s_19
      have q8 := q8.sub s_19
      have q7 := q7.sub s_19
      have hF := hF.sub s_19
      have o := o.sub s_19
      have hI := hI.sub s_19
      have szB := Nat.le_trans szB s_19.size
      have hb_5 := hb_5.sub s_19
      have sz_20 := S.size
      have ltb6_20 := q6.lt
      have ltb8_20 := q8.lt
      have ltb7_20 := q7.lt
      have ltb_5_20 := hb_5.lt
      have ltb_19_20 := hb_19.lt
      refine RL.append2 (base := E) (rows := O.map fun x => [i6 x]) (news := [_]) sl22 ze2 rfl rfl rfl rfl (.inl o) (Has.slOne hb_19) rfl (by intro r hr; rw [List.mem_singleton] at hr; subst hr; rfl) rfl (by (try simp only [List.length_map, List.length_nil, List.length_append, List.length_cons]); omega) (by (try simp only [List.length_map, List.length_nil, List.length_append, List.length_cons]); omega) (by omega) rfl rfl (fun v_20 w_20 hc_20 ho_20 ag_20 ob_20 => ?_)
      have o20 := ho_20 (.inl (by simp))
      rw [show _ ++ [_] = ((O ++ [x.v]).map fun x => [i6 x]) from by rw [List.map_append]; rfl] at o20
      have d_o20_b6 := obNe ob_20 do6 q6.lt
      have d_o20_b8 := obNe ob_20 do8 q8.lt
      have d_o20_b7 := obNe ob_20 do7 q7.lt
      have dd_o20_hF := obDF ob_20 doF2 (fun k hk => (hF.ge k hk).2)
      have dd_o20_hI := obDF ob_20 hKo3 (fun k hk => (hI.ge k hk).2)
      have d_o20_b_5 := obNe ob_20 d_o2_5 hb_5.lt
      have S := S.agrN ag_20 (fun k e => Nat.le_trans (by omega) e.2)
      have q6 := q6.step ag_20 (fun e => do6 _ e.1 rfl)
      have q8 := q8.step ag_20 (fun e => do8 _ e.1 rfl)
      have q7 := q7.step ag_20 (fun e => do7 _ e.1 rfl)
      have hF := hF.step ag_20 (fun k hk e => doF2 k e.1 hk)
      have hI := hI.step ag_20 (fun k hk e => hKo3 k e.1 hk)
      have szB := Nat.le_trans szB ag_20.size
      have hb_5 := hb_5.step ag_20 (fun e => d_o2_5 _ e.1 rfl)
      obtain ⟨a_20, c_20, rfl, k_20⟩ := o20.form
      refine RL.store sh22 rfl rfl rfl q7 (by exact Nat.le_of_ble_eq_true rfl) (by rfl) rfl (fun w7 z7 q7 a7 => ?_)
      have S := S.upd a7 ge7
      have q6 := q6.upd a7 n67
      have q8 := q8.upd a7 n87
      have hF := hF.updD a7 dC
      have hI := hI.updD a7 hK7
      have szB := Nat.le_trans szB a7.size
      have hb_5 := hb_5.upd a7 n7__5.symm
      have o20 := o20.updD a7 d_o20_b7
      have q7 : Has w7 b7 ([.slice a_20 ((O ++ [x.v]).map fun x => [i6 x]).length c_20]) _ := q7
      refine RL.nil (RC.back ?_)
      refine RC.region rfl ?_
      refine RL.ev (.load1 sh85 rfl (q8.cell rfl)) rfl rfl ?_
      refine RL.ev (.field0 fo73_5 rfl) rfl rfl ?_
      refine RL.ev (.indexArr ar71 rfl rfl (by omega)) rfl rfl ?_
      refine RL.ev (.load1 sh28 rfl (hb_5.cell rfl)) rfl rfl ?_
      refine RL.callv rfl rfl (us := []) (cs := [.pointer (some ⟨b6, 0, none⟩), .pointer (some ⟨b8, 0, none⟩), .pointer (some ⟨b7, 0, none⟩)]) ok33 (ih2 (O ++ [x.v]) a_20 c_20 K I w7 hk1 (by simp only [List.length_append, List.length_singleton]; omega) ⟨q6, q8, q7, hF, o20, szB, S⟩ hI hK7 dd_o20_hI) rfl rfl ?_
      rintro _ w8 ⟨a4, c4, hs4, hI4, hKo4⟩
      refine RL.nil ?_
      refine fun a ka => ⟨ka.defers, _, run_results (rs := []) (vs := []) ka rfl trivial, ?_⟩
      -- end 1
      rw [show out ++ (L ++ x.v :: R) = O ++ [x.v] ++ R by rw [hO]; simp]
      exact ⟨a4, c4, hs4, hI4, hKo4⟩
theorem c_dRow (A : Ar) (na fa : Option Addr) (nc fc : Nat) (hnc : A.nodes.length ≤ nc) (hfc : A.free.length ≤ fc) (r : Int) (hr : U64 r) (w : World) (hA : ArR w na fa A) :
    FC Try.prog 12 [arV na fa nc fc A, .int .u64 r] w (fun v w' => Sub w w' ∧ ∃ a c V e, v = .tuple #[.slice a (V.map fun x => [i6 x]).length c, .int .i64 e] ∧ V.length ≤ c ∧ Sl w' a 1 (V.map fun x => [i6 x]) ∧ (¬ isRow A r → V = [] ∧ e = 1) ∧ ∀ V' P, isRow A r → IsR A r V' P → V = V' ∧ e = 0) := by
  have hN := hA.nodes
  have hFr := hA.free
  have hG : Ft (· < w.heap.size) (fun u => ArR u na fa A) w := Ft.of_sub fun u s => hA.sub s
  obtain ⟨V, P, hm⟩ := rowsL A r
  refine FC.intro Try.func12 rfl Try.ntmps12 rfl ?_
  have S := Sub.refl w
  refine RC.seq ?_
  refine RC.region rfl ?_
  refine RL.box rfl rfl rfl (fun b_2 w_2 e_2 z_2 hb_2 s_2 => ?_)
  have ge_2 := S.le e_2
  have S := S.trans s_2
  have hb_2 : Has w_2 b_2 ([.slice na A.nodes.length nc, .slice fa A.free.length fc]) _ := hb_2
  refine RL.ev (.assign rfl) rfl rfl ?_
  refine RL.ev (.assign rfl) rfl rfl ?_
  refine RL.nil (RC.back ?_)
  refine RC.seq ?_
  refine RC.seq ?_
  refine RC.region rfl ?_
  refine RL.ev (.loadR ([.slice na A.nodes.length nc, .slice fa A.free.length fc]) sh26 rfl hb_2.row rfl) rfl rfl ?_
  refine RL.ev (.move rfl) rfl rfl ?_
  refine RL.call rfl ok26 (c_dRight A na fa nc fc hnc hfc r hr w_2 (hA.sub S)) rfl rfl ?_
  rintro _ w1 ⟨rfl, s2⟩
  have S := S.trans s2
  have hb_2 := hb_2.sub s2
  refine RL.ev (.not rfl) rfl rfl ?_
  refine RL.nil (RC.back ?_)
  refine RC.cond rfl (fun h3 => ?_) (fun h3 => ?_)
  ·
    have hno : ¬ isRow A r := (fun h => by have h2 := h3; rw [isRowB_yes h] at h2; cases h2)
    refine RC.seq ?_
    refine RC.region rfl ?_
    refine RL.ev (.assign rfl) rfl rfl ?_
    refine RL.ev (.assign rfl) rfl rfl ?_
    refine RL.nil (RC.back ?_)
    refine RC.done (rs := [.tmp 4, .tmp 5]) (vs := [_, _]) rfl rfl ⟨rfl, rfl, trivial⟩ ?_
    -- end 1
    exact ⟨S, none, 0, [], 1, rfl, Nat.le_refl _, Sl.nil _ _ _, fun _ => ⟨rfl, rfl⟩, fun V' P' h => absurd h hno⟩
  ·
    have hmap : isRow A r := (isRowB_iff A r).1 (by simpa using h3)
    have hV := hm hmap
    have hVl := isRow_len hmap hV
    refine RC.skip (RC.back ?_)
    refine RC.seq ?_
    refine RC.region rfl ?_
    refine RL.ev (.loadR ([.slice na A.nodes.length nc, .slice fa A.free.length fc]) sh26 rfl hb_2.row rfl) rfl rfl ?_
    refine RL.ev (.buildS ze84 pl84 rfl rfl) rfl rfl ?_
    refine RL.box rfl rfl rfl (fun b_15 w_15 e_15 z_15 hb_15 s_15 => ?_)
    have ge_15 := S.le e_15
    have n_2__15 := hb_2.ne e_15
    have S := S.trans s_15
    have hb_2 := hb_2.sub s_15
    have hb_15 : Has w_15 b_15 (wvC na fa nc fc A 0) 84 := hb_15
    have hG1 := hG.sub S
    have hF := FoG.ft (s := (A, 0)) hb_15 hnc hfc hG1 (fun e => by have := ge_15; omega)
    refine RL.alloc ze70 rfl rfl (fun b_6 w_6 e_6 z_6 hb_6 s_6 => ?_)
    have ge_6 := S.le e_6
    have n_2__6 := hb_2.ne e_6
    have d_hF_b_6 := hF.neNew e_6
    have S := S.trans s_6
    have hb_2 := hb_2.sub s_6
    have hF := hF.sub s_6
    refine RL.store sh70 rfl rfl rfl hb_6 (by exact Nat.le_of_ble_eq_true rfl) (by rfl) rfl (fun w4 z4 hb_6 a4 => ?_)
    have S := S.upd a4 ge_6
    have hb_2 := hb_2.upd a4 n_2__6
    have hF := hF.updD a4 d_hF_b_6
    refine RL.nil (RC.back ?_)
    refine RC.seq ?_
    refine RC.region rfl ?_
    refine RL.alloc ze22 rfl rfl (fun b_7 w_7 e_7 z_7 hb_7 s_7 => ?_)
    have ge_7 := S.le e_7
    have n_2__7 := hb_2.ne e_7
    have n_6__7 := hb_6.ne e_7
    have d_hF_b_7 := hF.neNew e_7
    have S := S.trans s_7
    have hb_2 := hb_2.sub s_7
    have hF := hF.sub s_7
    have hb_6 := hb_6.sub s_7
    have dF7 : ∀ k, (k = b_15 ∨ k < w.heap.size) → k ≠ b_7 := d_hF_b_7
    refine RL.nil (RC.back ?_)
    refine RC.seq ?_
    refine RC.region rfl ?_
    refine RL.alloc ze85 rfl rfl (fun b_8 w_8 e_8 z_8 hb_8 s_8 => ?_)
    have ge_8 := S.le e_8
    have n_2__8 := hb_2.ne e_8
    have n_6__8 := hb_6.ne e_8
    have n_7__8 := hb_7.ne e_8
    have d_hF_b_8 := hF.neNew e_8
    have S := S.trans s_8
    have hb_2 := hb_2.sub s_8
    have hF := hF.sub s_8
    have hb_6 := hb_6.sub s_8
    have hb_7 := hb_7.sub s_8
    refine RL.nil (RC.back ?_)
    refine RC.seq ?_
    refine RC.region rfl ?_
    refine RL.ev (.func (xs := []) (ys := [_, _, _]) rfl rfl) rfl rfl ?_
    refine RL.store sh85 rfl rfl rfl hb_8 (by exact Nat.le_of_ble_eq_true rfl) (by rfl) rfl (fun w5 z5 hb_8 a5 => ?_)
    have S := S.upd a5 ge_8
    have hb_2 := hb_2.upd a5 n_2__8
    have hF := hF.updD a5 d_hF_b_8
    have hb_6 := hb_6.upd a5 n_6__8
    have hb_7 := hb_7.upd a5 n_7__8
    have hb_8 : Has w5 b_8 ([rowFn b_6 b_8 b_7]) _ := hb_8
    obtain ⟨E, hE⟩ : ∃ E, E = w5.heap.size := ⟨_, rfl⟩
    have l6 := hb_6.lt
    have l7 := hb_7.lt
    have l8 := hb_8.lt
    have lF := hF.lt
    have szS := S.size
    rw [← hE] at l6 l7 l8 lF szS
    have hB : RWok w E b_6 b_8 b_7 (fun k => k = b_15 ∨ k < w.heap.size) := ⟨l6, l8, l7, n_6__7, n_7__8.symm, dF7, lF, ge_7, szS⟩
    refine RL.nil (RC.back ?_)
    refine RC.seq ?_
    refine RC.region rfl ?_
    refine RL.ev (.load1 sh85 rfl (hb_8.cell rfl)) rfl rfl ?_
    refine RL.ev (.move rfl) rfl rfl ?_
    refine RL.callv rfl rfl (us := []) (cs := [.pointer (some ⟨b_6, 0, none⟩), .pointer (some ⟨b_8, 0, none⟩), .pointer (some ⟨b_7, 0, none⟩)]) ok33 (c_drow1 w E b_6 b_8 b_7 b_15 _ hB A hV [] none 0 (fun _ => False) (fun _ => True) w5 hr (by simp only [List.length_nil]; omega) ⟨hb_6, hb_8, hb_7, hF, Ows.nil _ _ _ _, by rw [hE]; exact Nat.le_refl _, S⟩ ⟨fun _ h => h.elim, fun _ _ => trivial⟩ (fun _ h => h.elim) (fun _ _ h => h.elim)) rfl rfl ?_
    rintro _ w6 ⟨a2, c2, ⟨q6, q8, hb_7, hF, o, szB, S⟩, _, _⟩
    rw [List.nil_append] at hb_7 o
    refine RL.nil (RC.back ?_)
    refine RC.seq ?_
    refine RC.region rfl ?_
    refine RL.ev (.load1 sh22 rfl (hb_7.cell rfl)) rfl rfl ?_
    refine RL.ev (.assign rfl) rfl rfl ?_
    refine RL.ev (.assign rfl) rfl rfl ?_
    refine RL.nil (RC.back ?_)
    refine RC.done (rs := [.tmp 4, .tmp 5]) (vs := [_, _]) rfl rfl ⟨rfl, rfl, trivial⟩ ?_
    -- end 2
    have hoc : V.length ≤ c2 := (by obtain ⟨_, c', e, h⟩ := o.form; cases e; rw [List.length_map] at h; exact h)
    exact ⟨S, a2, c2, V, 0, rfl, hoc, o.sl.1, fun h => absurd hmap h, fun V' P' _ hV' => ⟨(hV'.unique hV).1, rfl⟩⟩
theorem c_dSize (A : Ar) (na fa : Option Addr) (nc fc : Nat) (hnc : A.nodes.length ≤ nc) (hfc : A.free.length ≤ fc) (r : Int) (hr : U64 r) (w : World) (hA : ArR w na fa A) :
    FC Try.prog 20 [arV na fa nc fc A, .int .u64 r] w (fun v w' => Sub w w' ∧ ∃ n e, v = .tuple #[.int .i64 n, .int .i64 e] ∧ (¬ isRow A r → n = 0 ∧ e = 1) ∧ ∀ V P, isRow A r → IsR A r V P → n = V.length ∧ e = 0) := by
  refine FC.intro Try.func20 rfl Try.ntmps20 rfl ?_
  have S := Sub.refl w
  refine RC.seq ?_
  refine RC.region rfl ?_
  refine RL.box rfl rfl rfl (fun b_2 w_2 e_2 z_2 hb_2 s_2 => ?_)
  have ge_2 := S.le e_2
  have S := S.trans s_2
  have hb_2 : Has w_2 b_2 ([.slice na A.nodes.length nc, .slice fa A.free.length fc]) _ := hb_2
  refine RL.ev (.assign rfl) rfl rfl ?_
  refine RL.ev (.assign rfl) rfl rfl ?_
  refine RL.nil (RC.back ?_)
  refine RC.seq ?_
  refine RC.region rfl ?_
  refine RL.ev (.loadR ([.slice na A.nodes.length nc, .slice fa A.free.length fc]) sh26 rfl hb_2.row rfl) rfl rfl ?_
  refine RL.ev (.move rfl) rfl rfl ?_
  refine RL.call rfl ok12 (c_dRow A na fa nc fc hnc hfc r hr w_2 (hA.sub S)) rfl rfl ?_
  rintro _ w1 ⟨s2, a, c, V, e, rfl, hc, hsl, h1, h2⟩
  have S := S.trans s2
  have hb_2 := hb_2.sub s2
  refine RL.ev (.move rfl) rfl rfl ?_
  refine RL.ev (.extract rfl rfl) rfl rfl ?_
  refine RL.ev (.extract rfl rfl) rfl rfl ?_
  refine RL.ev (.assign rfl) rfl rfl ?_
  refine RL.ev (.assign rfl) rfl rfl ?_
  refine RL.nil (RC.back ?_)
  refine RC.seq ?_
  refine RC.region rfl ?_
  refine RL.ev (.move rfl) rfl rfl ?_
  refine RL.ev (.as (v' := .int .i64 (V.length : Int)) (.len sl22 rfl) (by rw [List.length_map])) rfl rfl ?_
  refine RL.ev (.move rfl) rfl rfl ?_
  refine RL.ev (.assign rfl) rfl rfl ?_
  refine RL.ev (.assign rfl) rfl rfl ?_
  refine RL.nil (RC.back ?_)
  refine RC.done (rs := [.tmp 4, .tmp 5]) (vs := [_, _]) rfl rfl ⟨rfl, rfl, trivial⟩ ?_
  -- end 1
  exact ⟨S, _, e, rfl, fun h => by rw [(h1 h).1, (h1 h).2]; exact ⟨rfl, rfl⟩, fun V' P h k => by rw [(h2 V' P h k).1, (h2 V' P h k).2]; exact ⟨rfl, rfl⟩⟩
theorem c_dAt (A : Ar) (na fa : Option Addr) (nc fc : Nat) (hnc : A.nodes.length ≤ nc) (hfc : A.free.length ≤ fc) (r p : Int) (hr : U64 r) (hp : I64 p) (w : World) (hA : ArR w na fa A) :
    FC Try.prog 18 [arV na fa nc fc A, .int .u64 r, .int .i64 p] w (fun v w' => Sub w w' ∧ ∃ z e, v = .tuple #[.int .i64 z, .int .i64 e] ∧ (¬ isRow A r → z = 0 ∧ e = 1) ∧ ∀ V P, isRow A r → IsR A r V P → (¬ (0 ≤ p ∧ p < V.length) ∧ z = 0 ∧ e = 3) ∨ (0 ≤ p ∧ p < V.length ∧ z = V.getD p.toNat 0 ∧ e = 0)) := by
  refine FC.intro Try.func18 rfl Try.ntmps18 rfl ?_
  have S := Sub.refl w
  refine RC.seq ?_
  refine RC.region rfl ?_
  refine RL.box rfl rfl rfl (fun b_3 w_3 e_3 z_3 hb_3 s_3 => ?_)
  have ge_3 := S.le e_3
  have S := S.trans s_3
  have hb_3 : Has w_3 b_3 ([.slice na A.nodes.length nc, .slice fa A.free.length fc]) _ := hb_3
  refine RL.ev (.assign rfl) rfl rfl ?_
  refine RL.ev (.assign rfl) rfl rfl ?_
  refine RL.nil (RC.back ?_)
  refine RC.seq ?_
  refine RC.region rfl ?_
  refine RL.ev (.loadR ([.slice na A.nodes.length nc, .slice fa A.free.length fc]) sh26 rfl hb_3.row rfl) rfl rfl ?_
  refine RL.ev (.move rfl) rfl rfl ?_
  refine RL.call rfl ok12 (c_dRow A na fa nc fc hnc hfc r hr w_3 (hA.sub S)) rfl rfl ?_
  rintro _ w1 ⟨s2, a, c, V, e, rfl, hc, hsl, h1, h2⟩
  have S := S.trans s2
  have hb_3 := hb_3.sub s2
  refine RL.ev (.move rfl) rfl rfl ?_
  refine RL.ev (.extract rfl rfl) rfl rfl ?_
  refine RL.ev (.extract rfl rfl) rfl rfl ?_
  refine RL.ev (.assign rfl) rfl rfl ?_
  refine RL.ev (.assign rfl) rfl rfl ?_
  refine RL.nil (RC.back ?_)
  refine RC.seq ?_
  refine RC.block ?_
  refine RC.seq ?_
  refine RC.region rfl ?_
  refine RL.ev (.move rfl) rfl rfl ?_
  refine RL.ev (.bin rfl rfl rfl) rfl rfl ?_
  refine RL.ev (.assign rfl) rfl rfl ?_
  refine RL.nil (RC.back ?_)
  refine RC.cond_dec rfl (fun h3 => ?_) (fun h3 => ?_)
  ·
    have he := h3
    have hno : ¬ isRow A r := (fun h => by obtain ⟨_, V', P', k, _⟩ := id h; exact he (h2 V' P' h k).2)
    refine RC.seq ?_
    refine RC.region rfl ?_
    refine RL.ev (.move rfl) rfl rfl ?_
    refine RL.ev (.assign rfl) rfl rfl ?_
    refine RL.ev (.assign rfl) rfl rfl ?_
    refine RL.nil (RC.back ?_)
    refine RC.done (rs := [.tmp 6, .tmp 7]) (vs := [_, _]) rfl rfl ⟨rfl, rfl, trivial⟩ ?_
    -- end 1
    exact ⟨S, 0, e, rfl, fun h => ⟨rfl, (h1 h).2⟩, fun V' P h => absurd h hno⟩
  ·
    have he : e = 0 := Decidable.not_not.1 h3
    have hmap : isRow A r := Classical.byContradiction fun h => by have := (h1 h).2; omega
    refine RC.seq ?_
    refine RC.region rfl ?_
    refine RL.ev (.move rfl) rfl rfl ?_
    refine RL.ev (.bin rfl rfl rfl) rfl rfl ?_
    refine RL.ev (.move rfl) rfl rfl ?_
    refine RL.split 23 rfl (fun h4 => ?_) (fun h4 => ?_)
    ·
      have q := h4
      refine RL.off rfl rfl ?_
      refine RL.off rfl rfl ?_
      refine RL.off rfl rfl ?_
      refine RL.off rfl rfl ?_
      refine RL.ev (.pick_t rfl rfl) rfl rfl ?_
      refine RL.ev (.assign rfl) rfl rfl ?_
      refine RL.nil (RC.back ?_)
      refine RC.cond_t rfl ?_
      refine RC.seq ?_
      refine RC.region rfl ?_
      refine RL.ev (.assign rfl) rfl rfl ?_
      refine RL.ev (.assign rfl) rfl rfl ?_
      refine RL.nil (RC.back ?_)
      refine RC.done (rs := [.tmp 6, .tmp 7]) (vs := [_, _]) rfl rfl ⟨rfl, rfl, trivial⟩ ?_
      -- end 2
      exact ⟨S, 0, 3, rfl, fun h => absurd hmap h, fun V' P h k => .inl ⟨by rw [← (h2 V' P h k).1]; omega, rfl, rfl⟩⟩
    ·
      have q := h4
      refine RL.ev (.move rfl) rfl rfl ?_
      refine RL.ev (.move rfl) rfl rfl ?_
      refine RL.ev (.as (v' := .int .i64 (V.length : Int)) (.len sl22 rfl) (by rw [List.length_map])) rfl rfl ?_
      refine RL.ev (.bin rfl rfl rfl) rfl rfl ?_
      refine RL.ev (.pick_f rfl rfl) rfl rfl ?_
      refine RL.ev (.assign rfl) rfl rfl ?_
      refine RL.nil (RC.back ?_)
      refine RC.cond_dec rfl (fun h5 => ?_) (fun h5 => ?_)
      ·
        have q2 : ¬ (0 ≤ p ∧ p < V.length) := (by omega)
        refine RC.seq ?_
        refine RC.region rfl ?_
        refine RL.ev (.assign rfl) rfl rfl ?_
        refine RL.ev (.assign rfl) rfl rfl ?_
        refine RL.nil (RC.back ?_)
        refine RC.done (rs := [.tmp 6, .tmp 7]) (vs := [_, _]) rfl rfl ⟨rfl, rfl, trivial⟩ ?_
        -- end 3
        exact ⟨S, 0, 3, rfl, fun h => absurd hmap h, fun V' P h k => .inl ⟨by rw [← (h2 V' P h k).1]; omega, rfl, rfl⟩⟩
      ·
        have q2 : 0 ≤ p ∧ p < V.length := (by omega)
        obtain ⟨z, hz⟩ := getSome (l := V) (i := p.toNat) (by omega)
        refine RC.skip (RC.back ?_)
        refine RC.seq ?_
        refine RC.region rfl ?_
        refine RL.ev (.move rfl) rfl rfl ?_
        refine RL.ev (.move rfl) rfl rfl ?_
        refine RL.ev (.indexS sl22 rfl rfl (by rw [List.length_map]; exact q2) (hsl.is (i := 0) (by simp only [List.length_map]; omega))) rfl rfl ?_
        refine RL.ev (.load1 sh2 rfl (hsl.one (enc := i6) hz)) rfl rfl ?_
        refine RL.ev (.assign rfl) rfl rfl ?_
        refine RL.ev (.assign rfl) rfl rfl ?_
        refine RL.nil (RC.back ?_)
        refine RC.done (rs := [.tmp 6, .tmp 7]) (vs := [_, _]) rfl rfl ⟨rfl, rfl, trivial⟩ ?_
        -- end 4
        exact ⟨S, z, 0, rfl, fun h => absurd hmap h, fun V' P h k => .inr (by rw [← (h2 V' P h k).1]; exact ⟨q2.1, q2.2, by rw [List.getD_eq_getElem?_getD, hz]; rfl, rfl⟩)⟩
end Go.Proofs.Ytefakjhfcgjhgaa
