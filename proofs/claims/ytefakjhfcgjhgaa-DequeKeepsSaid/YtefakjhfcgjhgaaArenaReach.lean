/-
  arena.Reach: a function that calls itself, over boxes.
-/
import Derived.Test.YtefakjhfcgjhgaaArenaReachP
set_option linter.unusedVariables false
set_option linter.unusedSimpArgs false
namespace Go.Proofs.Ytefakjhfcgjhgaa
open Go Go.XL

/-- which places are among those -/
def flagsO (n : Nat) (out : List Int) : List Bool := (List.range n).map fun (p : Nat) => decide ((p : Int) ∈ out)
theorem flagsO_len (n : Nat) (out : List Int) : (flagsO n out).length = n := by simp [flagsO]
theorem flagsO_get (n : Nat) (out : List Int) (x : Int) (h : 0 ≤ x ∧ x < n) : (flagsO n out)[x.toNat]? = some (decide (x ∈ out)) := by
  simp only [flagsO, List.getElem?_map, List.getElem?_range (show x.toNat < n by omega), Option.map_some]
  rw [Int.toNat_of_nonneg h.1]
theorem flagsO_set (n : Nat) (out : List Int) (x : Int) (h : 0 ≤ x ∧ x < n) : (flagsO n out).set x.toNat true = flagsO n (out ++ [x]) := by
  apply List.ext_getElem?
  intro k
  rw [List.getElem?_set, flagsO_len]
  by_cases hk : k < n
  · have h2 := flagsO_get n (out ++ [x]) k (by omega)
    have h3 := flagsO_get n out k (by omega)
    rw [Int.toNat_natCast] at h2 h3
    rw [h2, h3]
    by_cases e : x.toNat = k
    · rw [if_pos e, if_pos (by omega)]
      have : (k : Int) = x := by omega
      simp [this]
    · rw [if_neg e]
      have : ¬ (k : Int) = x := by omega
      simp [this]
  · rw [List.getElem?_eq_none (l := flagsO n (out ++ [x])) (by rw [flagsO_len]; omega), List.getElem?_eq_none (l := flagsO n out) (by rw [flagsO_len]; omega)]
    by_cases e : x.toNat = k
    · rw [if_pos e, if_neg (by omega)]
    · rw [if_neg e]

/-- the boxes of a call of Reach -/
structure Bx where
  E : Nat
  b2 : Nat
  b7 : Nat
  b6 : Nat
  b8 : Nat
  bF : Nat
structure BxOk (w0 : World) (B : Bx) : Prop where
  lt2 : B.b2 < B.E
  lt7 : B.b7 < B.E
  lt6 : B.b6 < B.E
  lt8 : B.b8 < B.E
  ltF : B.bF < B.E
  ge2 : w0.heap.size ≤ B.b2
  ge7 : w0.heap.size ≤ B.b7
  ge6 : w0.heap.size ≤ B.b6
  ge8 : w0.heap.size ≤ B.b8
  geF : w0.heap.size ≤ B.bF
  n27 : B.b2 ≠ B.b7
  n26 : B.b2 ≠ B.b6
  n28 : B.b2 ≠ B.b8
  n2F : B.b2 ≠ B.bF
  n76 : B.b7 ≠ B.b6
  n78 : B.b7 ≠ B.b8
  n7F : B.b7 ≠ B.bF
  n68 : B.b6 ≠ B.b8
  n6F : B.b6 ≠ B.bF
  n8F : B.b8 ≠ B.bF
def selfV (B : Bx) : Value := .func (.func 52) #[] #[.pointer (some ⟨B.b2, 0, none⟩), .pointer (some ⟨B.b7, 0, none⟩), .pointer (some ⟨B.b6, 0, none⟩), .pointer (some ⟨B.b8, 0, none⟩)]
/-- how they stand when 'out' was met -/
structure RS (w0 : World) (B : Bx) (na fa : Option Addr) (nc fc : Nat) (A : Ar) (out : List Int) (a : Option Addr) (c : Nat) (w : World) : Prop where
  h2 : Has w B.b2 [.slice na A.nodes.length nc, .slice fa A.free.length fc] 26
  h7 : Has w B.b7 [.slice (some ⟨B.bF, 0, none⟩) A.nodes.length A.nodes.length] 100
  h6 : Has w B.b6 [.slice a (out.map fun x => [i6 x]).length c] 24
  h8 : Has w B.b8 [selfV B] 85
  hF : Has w B.bF ((flagsO A.nodes.length out).map Value.bool) 4
  o : Ows B.E w 3 1 (.slice a (out.map fun x => [i6 x]).length c) (out.map fun x => [i6 x])
  sz : B.E ≤ w.heap.size
  S : Sub w0 w

theorem getV_form (A : Ar) (r : Int) : ∃ (y : Node) (e : Int), getV A r = .tuple #[y.val, .int .i64 e] ∧ (e = 0 → getA A r = some y) ∧ (¬ e = 0 → getA A r = none) := by
  cases h : getA A r with
  | none => exact ⟨bareN 0, 4, getV_no h, by omega, fun _ => rfl⟩
  | some x => exact ⟨x, 0, getV_yes h, fun _ => rfl, by omega⟩
/-- what was met behind the first j of those -/
def metK (A : Ar) (k : Nat) (ks o : List Int) (j : Nat) : List Int := (ks.take j).foldl (visitF A k) o
theorem metK_0 (A : Ar) (k : Nat) (ks o : List Int) : metK A k ks o 0 = o := by simp [metK]
theorem metK_all (A : Ar) (k : Nat) (ks o : List Int) {n : Nat} (h : ks.length = n) : metK A k ks o n = ks.foldl (visitF A k) o := by rw [metK, ← h, List.take_length]
theorem metK_succ {A : Ar} {k : Nat} {ks o : List Int} {j : Nat} {x : Int} (h : ks[j]? = some x) : metK A k ks o (j + 1) = visitF A k (metK A k ks o j) x := by
  rw [metK, List.take_add_one, h, List.foldl_append]; rfl
theorem metK_pl {A : Ar} {k : Nat} {ks o : List Int} {j : Nat} {x : Int} {n : Nat} (h : ks[j]? = some x) (hp : Pl A (metK A k ks o j)) (hn : n ≤ (metK A k ks o j).length) : Pl A (metK A k ks o (j + 1)) ∧ n ≤ (metK A k ks o (j + 1)).length := by
  have hv := visitF_pl A k _ x hp
  rw [metK_succ h]
  obtain ⟨h1, l, h2⟩ := hv
  exact ⟨h1, by rw [h2, List.length_append]; omega⟩
theorem c_reach1 (w0 : World) (B : Bx) (hB : BxOk w0 B) (na fa : Option Addr) (nc fc : Nat) (A : Ar) (hA : ArR w0 na fa A) (hn : A.nodes.length ≤ 512) : ∀ (k : Nat) (out : List Int) (a : Option Addr) (c : Nat) (r : Int) (w : World), U64 r → A.nodes.length < out.length + k → Pl A out → RS w0 B na fa nc fc A out a c w →
    FC Try.prog 52 [.int .u64 r, .pointer (some ⟨B.b2, 0, none⟩), .pointer (some ⟨B.b7, 0, none⟩), .pointer (some ⟨B.b6, 0, none⟩), .pointer (some ⟨B.b8, 0, none⟩)] w (fun _ w' => ∃ a' c', RS w0 B na fa nc fc A (visitF A k out r) a' c' w') := by
  intro k
  induction k with
  | zero => intro out a c r w _ hk hp; exact absurd hp.len (by omega)
  | succ k ih =>
  intro out a c r w hr hk hp hs
  obtain ⟨E, b2, b7, b6, b8, bF⟩ := B
  obtain ⟨l2, l7, l6, l8, lF, g2, g7, g6, g8, gF, n27, n26, n28, n2F, n76, n78, n7F, n68, n6F, n8F⟩ := hB
  obtain ⟨q2, q7, q6, q8, qF, o, szB, S⟩ := hs
  simp only [] at l2 l7 l6 l8 lF g2 g7 g6 g8 gF n27 n26 n28 n2F n76 n78 n7F n68 n6F n8F q2 q7 q6 q8 qF o szB
  obtain ⟨y, e, hgv, hg0, hg1⟩ := getV_form A r
  have hpp := hp.len
  have ge2 := g2; have ge7 := g7; have ge6 := g6; have ge8 := g8; have geF := gF
  refine FC.intro Try.func52 rfl Try.ntmps52 rfl ?_
  have d2 : ∀ k, ob (.slice a (out.map fun x => [i6 x]).length c) = some k → E ≤ k := fun k hk => (o.ge k hk).1
  have nb2_b7 : b2 ≠ b7 := by exact n27
  have nb2_b6 : b2 ≠ b6 := by exact n26
  have nb2_b8 : b2 ≠ b8 := by exact n28
  have nb2_bF : b2 ≠ bF := by exact n2F
  have nb7_b6 : b7 ≠ b6 := by exact n76
  have nb7_b8 : b7 ≠ b8 := by exact n78
  have nb7_bF : b7 ≠ bF := by exact n7F
  have nb6_b8 : b6 ≠ b8 := by exact n68
  have nb6_bF : b6 ≠ bF := by exact n6F
  have nb8_bF : b8 ≠ bF := by exact n8F
  refine RC.seq ?_
  refine RC.region rfl ?_
  refine RL.ev (.loadR (_) sh26 rfl q2.row rfl) rfl rfl ?_
  refine RL.ev (.move rfl) rfl rfl ?_
  refine RL.call rfl ok43 (c_aGet A na fa nc fc r hr w (hA.sub S)) rfl rfl ?_
  rintro _ w1 ⟨rfl, s2⟩
  have S := S.trans s2
  have q2 := q2.sub s2
  have q7 := q7.sub s2
  have q6 := q6.sub s2
  have q8 := q8.sub s2
  have qF := qF.sub s2
  have o := o.sub s2
  have szB := Nat.le_trans szB s2.size
  refine RL.ev (.as (v' := .tuple #[y.val, .int .i64 e]) (.move rfl) (by rw [hgv])) rfl rfl ?_
  refine RL.ev (.extract rfl rfl) rfl rfl ?_
  refine RL.ev (.extract rfl rfl) rfl rfl ?_
  refine RL.alloc ze73 rfl rfl (fun b_6 w_6 e_6 z_6 hb_6 s_6 => ?_)
  have ge_6 := S.le e_6
  have n2__6 := q2.ne e_6
  have n7__6 := q7.ne e_6
  have n6__6 := q6.ne e_6
  have n8__6 := q8.ne e_6
  have nF__6 := qF.ne e_6
  have d_o_b_6 := o.neNew e_6
  have S := S.trans s_6
  have q2 := q2.sub s_6
  have q7 := q7.sub s_6
  have q6 := q6.sub s_6
  have q8 := q8.sub s_6
  have qF := qF.sub s_6
  have o := o.sub s_6
  have szB := Nat.le_trans szB s_6.size
  refine RL.store sh73 rfl rfl rfl hb_6 (by exact Nat.le_of_ble_eq_true rfl) (by rfl) rfl (fun w3 z3 hb_6 a3 => ?_)
  have S := S.upd a3 ge_6
  have q2 := q2.upd a3 n2__6
  have q7 := q7.upd a3 n7__6
  have q6 := q6.upd a3 n6__6
  have q8 := q8.upd a3 n8__6
  have qF := qF.upd a3 nF__6
  have o := o.updD a3 d_o_b_6
  have szB := Nat.le_trans szB a3.size
  have hb_6 : Has w3 b_6 (y.cells) _ := hb_6.now (by kernel_rfl)
  refine RL.ev (.assign rfl) rfl rfl ?_
  refine RL.nil (RC.back ?_)
  refine RC.seq ?_
  refine RC.region rfl ?_
  refine RL.ev (.move rfl) rfl rfl ?_
  refine RL.call rfl ok53 (c_refPlace r hr w3) rfl rfl ?_
  rintro _ w4 ⟨rfl, s5⟩
  have S := S.trans s5
  have q2 := q2.sub s5
  have q7 := q7.sub s5
  have q6 := q6.sub s5
  have q8 := q8.sub s5
  have qF := qF.sub s5
  have o := o.sub s5
  have szB := Nat.le_trans szB s5.size
  have hb_6 := hb_6.sub s5
  refine RL.ev (.assign rfl) rfl rfl ?_
  refine RL.nil (RC.back ?_)
  refine RC.seq ?_
  refine RC.seq ?_
  refine RC.region rfl ?_
  refine RL.ev (.move rfl) rfl rfl ?_
  refine RL.ev (.bin rfl rfl rfl) rfl rfl ?_
  refine RL.ev (.move rfl) rfl rfl ?_
  refine RL.split 21 rfl (fun h6 => ?_) (fun h6 => ?_)
  ·
    have he := h6
    refine RL.off rfl rfl ?_
    refine RL.off rfl rfl ?_
    refine RL.off rfl rfl ?_
    refine RL.off rfl rfl ?_
    refine RL.ev (.pick_t rfl rfl) rfl rfl ?_
    refine RL.nil (RC.back ?_)
    refine RC.cond_t rfl ?_
    refine RC.done (rs := []) (vs := []) rfl rfl trivial ?_
    -- end 1
    rw [visitF_no (hg1 (by omega))]
    exact ⟨_, _, q2, q7, q6, q8, qF, o, szB, S⟩
  ·
    have hx := hg0 (by omega)
    have hrng := getA_rng hx
    refine RL.ev (.load1 sh100 rfl (q7.cell rfl)) rfl rfl ?_
    refine RL.ev (.move rfl) rfl rfl ?_
    refine RL.ev (.indexO sl100 rfl rfl (by omega)) rfl rfl ?_
    refine RL.ev (.load1 sh4 rfl (qF.cell (v := .bool (decide (placeR r ∈ out))) (by rw [Nat.mul_one, Nat.zero_add, List.getElem?_map, flagsO_get _ _ _ (by omega)]; rfl))) rfl rfl ?_
    refine RL.ev (.pick_f rfl rfl) rfl rfl ?_
    refine RL.nil (RC.back ?_)
    refine RC.cond_dec rfl (fun h7 => ?_) (fun h7 => ?_)
    ·
      have hin := h7
      refine RC.done (rs := []) (vs := []) rfl rfl trivial ?_
      -- end 2
      rw [visitF_met hx hin]
      exact ⟨_, _, q2, q7, q6, q8, qF, o, szB, S⟩
    ·
      have hno := h7
      have hp2 := hp.add hrng hno
      have hpp2 := hp2.len
      rw [List.length_append] at hpp2
      refine RC.skip (RC.back ?_)
      refine RC.seq ?_
      refine RC.region rfl ?_
      refine RL.ev (.load1 sh100 rfl (q7.cell rfl)) rfl rfl ?_
      refine RL.ev (.move rfl) rfl rfl ?_
      refine RL.ev (.indexO sl100 rfl rfl (by omega)) rfl rfl ?_
      refine RL.store sh4 rfl rfl rfl qF (by show 0 + (placeR r).toNat * 1 + 1 ≤ _; rw [List.length_map, flagsO_len]; omega) (by rfl) rfl (fun w8 z8 qF a8 => ?_)
      have S := S.upd a8 geF
      have q2 := q2.upd a8 nb2_bF
      have q7 := q7.upd a8 nb7_bF
      have q6 := q6.upd a8 nb6_bF
      have q8 := q8.upd a8 nb8_bF
      have o := o.updD a8 (fun k hk e => absurd (o.ge k hk).1 (by omega))
      have szB := Nat.le_trans szB a8.size
      have hb_6 := hb_6.upd a8 nF__6.symm
      have qF := (Has.set1 (enc := Value.bool) (i := (placeR r).toNat) (x := true) (by rw [Nat.zero_add, Nat.mul_one] at qF; exact qF))
      rw [flagsO_set _ _ _ hrng] at qF
      refine RL.nil (RC.back ?_)
      refine RC.seq ?_
      refine RC.region rfl ?_
      refine RL.ev (.load1 sh24 rfl (q6.cell rfl)) rfl rfl ?_
      refine RL.ev (.move rfl) rfl rfl ?_
      refine RL.buildSlice1 sl24 _ ze3 rfl rfl rfl rfl rfl rfl rfl (fun b_32 w_32 e_32 z_32 hb_32 s_32 => ?_)
      have ge_32 := S.le e_32
      have n2__32 := q2.ne e_32
      have n7__32 := q7.ne e_32
      have n6__32 := q6.ne e_32
      have n8__32 := q8.ne e_32
      have nF__32 := qF.ne e_32
      have n_6__32 := hb_6.ne e_32
      have d_o_b_32 := o.neNew e_32
      have S := S.trans s_32
      have q2 := q2.sub s_32
      have q7 := q7.sub s_32
      have q6 := q6.sub s_32
      have q8 := q8.sub s_32
      have qF := qF.sub s_32
      have o := o.sub s_32
      have szB := Nat.le_trans szB s_32.size
      have hb_6 := hb_6.sub s_32
      have sz_33 := S.size
      have ltb2_33 := q2.lt
      have ltb7_33 := q7.lt
      have ltb6_33 := q6.lt
      have ltb8_33 := q8.lt
      have ltbF_33 := qF.lt
      have ltb_6_33 := hb_6.lt
      have ltb_32_33 := hb_32.lt
      refine RL.append2 (base := E) (rows := out.map fun x => [i6 x]) (news := [_]) sl24 ze3 rfl rfl rfl rfl (.inl o) (Has.slOne hb_32) rfl (by intro r hr; rw [List.mem_singleton] at hr; subst hr; rfl) rfl (by (try simp only [List.length_map, List.length_nil, List.length_append, List.length_cons]); omega) (by (try simp only [List.length_map, List.length_nil, List.length_append, List.length_cons]); omega) (by omega) rfl rfl (fun v_33 w_33 hc_33 ho_33 ag_33 ob_33 => ?_)
      have o33 := ho_33 (.inl (by simp))
      rw [show _ ++ [_] = ((out ++ [placeR r]).map fun x => [i6 x]) from by rw [List.map_append]; rfl] at o33
      have d_o33_b2 := obNe ob_33 (fun k hk e => absurd (o.ge k hk).1 (by omega)) q2.lt
      have d_o33_b7 := obNe ob_33 (fun k hk e => absurd (o.ge k hk).1 (by omega)) q7.lt
      have d_o33_b6 := obNe ob_33 (fun k hk e => absurd (o.ge k hk).1 (by omega)) q6.lt
      have d_o33_b8 := obNe ob_33 (fun k hk e => absurd (o.ge k hk).1 (by omega)) q8.lt
      have d_o33_bF := obNe ob_33 (fun k hk e => absurd (o.ge k hk).1 (by omega)) qF.lt
      have d_o33_b_6 := obNe ob_33 d_o_b_6 hb_6.lt
      have S := S.agrN ag_33 (fun k e => Nat.le_trans (by omega) e.2)
      have q2 := q2.step ag_33 (fun e => absurd e.2 (by omega))
      have q7 := q7.step ag_33 (fun e => absurd e.2 (by omega))
      have q6 := q6.step ag_33 (fun e => absurd e.2 (by omega))
      have q8 := q8.step ag_33 (fun e => absurd e.2 (by omega))
      have qF := qF.step ag_33 (fun e => absurd e.2 (by omega))
      have szB := Nat.le_trans szB ag_33.size
      have hb_6 := hb_6.step ag_33 (fun e => d_o_b_6 _ e.1 rfl)
      obtain ⟨a_33, c_33, rfl, k_33⟩ := o33.form
      refine RL.store sh24 rfl rfl rfl q6 (by exact Nat.le_of_ble_eq_true rfl) (by rfl) rfl (fun w9 z9 q6 a9 => ?_)
      have S := S.upd a9 ge6
      have q2 := q2.upd a9 nb2_b6
      have q7 := q7.upd a9 nb7_b6
      have q8 := q8.upd a9 nb6_b8.symm
      have qF := qF.upd a9 nb6_bF.symm
      have szB := Nat.le_trans szB a9.size
      have hb_6 := hb_6.upd a9 n6__6.symm
      have o33 := o33.updD a9 d_o33_b6
      refine RL.nil (RC.back ?_)
      refine RC.seq ?_
      refine RC.region rfl ?_
      refine RL.ev (.field0 fo73_5 rfl) rfl rfl ?_
      refine RL.ev (.loadR (y.kids.map u6) sh71 rfl (Has.row_at (pre := [i6 y.kind, i6 y.gen, i6 y.n, i6 y.v, i6 y.s]) (mid := y.kids.map u6) (post := [i6 y.pre, i6 y.suf]) hb_6 rfl) rfl) rfl rfl ?_
      refine RL.ev (.move rfl) rfl rfl ?_
      refine RL.nil (RC.back ?_)
      refine RC.block ?_
      refine RC.loop (α := Nat × Option Addr × Nat) (fun x => [(4, .pointer (some ⟨b8, 0, none⟩)), (35, .agg (y.kids.map u6).toArray), (36, .int .i64 (x.1 : Int))]) (fun x w10 => x.1 ≤ 9 ∧ Pl A (metK A k y.kids (out ++ [placeR r]) x.1) ∧ out.length + 1 ≤ (metK A k y.kids (out ++ [placeR r]) x.1).length ∧ RS w0 ⟨E, b2, b7, b6, b8, bF⟩ na fa nc fc A (metK A k y.kids (out ++ [placeR r]) x.1) x.2.1 x.2.2 w10) (fun x => 9 - x.1) (0, a_33, c_33) (keep_of (by repeat (first | exact trivial | refine And.intro rfl ?_))) (⟨by omega, by rw [metK_0]; exact hp2, by rw [metK_0]; simp, by rw [metK_0]; exact ⟨q2, q7, q6, q8, qF, o33, szB, S⟩⟩) (fun x w10 hJ => ?_)
      obtain ⟨j, aj, cj⟩ := x; obtain ⟨hj, hpj, hlj, hs⟩ := hJ; obtain ⟨q2, q7, q6, q8, qF, o, szB, S⟩ := hs; simp only [] at hj hpj hlj q2 q7 q6 q8 qF o szB
      refine RC.seq ?_
      refine RC.region rfl ?_
      refine RL.ev (.bin rfl rfl rfl) rfl rfl ?_
      refine RL.nil (RC.back ?_)
      refine RC.seq ?_
      refine RC.cond_dec rfl (fun h11 => ?_) (fun h11 => ?_)
      ·
        obtain ⟨kj, hkj⟩ := getSome (l := y.kids) (i := j) (by show j < 9; omega)
        refine RC.skip (RC.back ?_)
        refine RC.seq ?_
        refine RC.block ?_
        refine RC.seq ?_
        refine RC.region rfl ?_
        refine RL.ev (.index1 ar71 sh28 rfl rfl (by omega) ((by simp [hkj] : (y.kids.map u6).toArray[(j : Int).toNat * 1]? = some (u6 kj)))) rfl rfl ?_
        refine RL.ev (.assign rfl) rfl rfl ?_
        refine RL.nil (RC.back ?_)
        refine RC.region rfl ?_
        refine RL.ev (.load1 sh85 rfl (q8.cell rfl)) rfl rfl ?_
        refine RL.ev (.move rfl) rfl rfl ?_
        refine RL.callv rfl rfl (us := []) (cs := [.pointer (some ⟨b2, 0, none⟩), .pointer (some ⟨b7, 0, none⟩), .pointer (some ⟨b6, 0, none⟩), .pointer (some ⟨b8, 0, none⟩)]) ok52 (ih _ aj cj kj w10 ((hA.nok y (getA_nok hx)).kids kj (List.mem_of_getElem? hkj)) (by omega) hpj ⟨q2, q7, q6, q8, qF, o, szB, S⟩) rfl rfl ?_
        rintro _ w12 ⟨a2, c2, hs2⟩
        have hv := metK_pl hkj hpj hlj
        rw [← metK_succ hkj] at hs2
        refine RL.nil (RC.back ?_)
        refine RC.region rfl ?_
        refine RL.ev (.as (.bin rfl rfl rfl) (wi64 (y := ((j + 1 : Nat) : Int)) (by omega) (by omega))) rfl rfl ?_
        refine RL.ev (.move rfl) rfl rfl ?_
        exact RL.nil (fun a ka => ⟨(j + 1, a2, c2), ⟨by omega, hv.1, hv.2, hs2⟩, by omega, ka.keep (keep_of (by repeat (first | exact trivial | refine And.intro rfl ?_)))⟩)
      ·
        obtain rfl : j = 9 := (by omega)
        refine RC.exit rfl ?_
        refine fun a ka => ⟨ka.defers, _, run_results (rs := []) (vs := []) ka rfl trivial, ?_⟩
        -- end 3
        rw [visitF_new hx hno, ← metK_all A k y.kids _ (n := 9) rfl]
        exact ⟨_, _, q2, q7, q6, q8, qF, o, szB, S⟩

/-- what is reached -/
def reachA (A : Ar) (l : List Int) : List Int := l.foldl (visitF A 513) []
theorem flagsO_nil (n : Nat) : flagsO n [] = List.replicate n false := by
  apply List.ext_getElem <;> simp [flagsO]
theorem c_aReach (A : Ar) (na fa : Option Addr) (nc fc : Nat) (l : List Int) (m : Nat) (hm : m = l.length) (pa : Option Addr) (pc : Nat) (hl : l.length ≤ 10000) (hli : ∀ x ∈ l, U64 x) (w : World) (hA : ArR w na fa A) (hP : Sl w pa 1 (l.map fun x => [u6 x])) :
    FC Try.prog 37 [arV na fa nc fc A, .slice pa m pc] w (fun v w' => Sub w w' ∧ (¬ AOk A ∧ v = .tuple #[.slice none 0 0, .int .i64 1] ∨
      AOk A ∧ ∃ a c, v = .tuple #[.slice a ((reachA A l).map fun x => [i6 x]).length c, .int .i64 0] ∧ (reachA A l).length ≤ c ∧ Pl A (reachA A l) ∧ ∀ N : Nat → Prop, (∀ k, N k → k < w.heap.size) → Imm N (fun u => Sl u a 1 ((reachA A l).map fun x => [i6 x])) w')) := by
  subst hm
  have hN := hA.nodes
  have hFr := hA.free
  refine FC.intro Try.func37 rfl Try.ntmps37 rfl ?_
  have S := Sub.refl w
  refine RC.seq ?_
  refine RC.region rfl ?_
  refine RL.box rfl rfl rfl (fun b_2 w_2 e_2 z_2 hb_2 s_2 => ?_)
  have ge_2 := S.le e_2
  have S := S.trans s_2
  have hb_2 : Has w_2 b_2 ([.slice na A.nodes.length nc, .slice fa A.free.length fc]) _ := hb_2
  refine RL.ev (.assign rfl) rfl rfl ?_
  refine RL.ev (.assign rfl) rfl rfl ?_
  refine RL.nil (RC.back ?_)
  refine RC.seq ?_
  refine RC.seq ?_
  refine RC.region rfl ?_
  refine RL.ev (.loadR ([.slice na A.nodes.length nc, .slice fa A.free.length fc]) sh26 rfl hb_2.row rfl) rfl rfl ?_
  refine RL.call rfl ok51 (c_aRight A na fa nc fc w_2 (hA.sub S)) rfl rfl ?_
  rintro _ w1 ⟨rfl, s2⟩
  have S := S.trans s2
  have hb_2 := hb_2.sub s2
  refine RL.ev (.not rfl) rfl rfl ?_
  refine RL.nil (RC.back ?_)
  refine RC.cond rfl (fun h3 => ?_) (fun h3 => ?_)
  ·
    have hno : ¬ AOk A := (fun h => by have h2 := h3; rw [aokB_yes h] at h2; cases h2)
    refine RC.seq ?_
    refine RC.region rfl ?_
    refine RL.ev (.assign rfl) rfl rfl ?_
    refine RL.ev (.assign rfl) rfl rfl ?_
    refine RL.nil (RC.back ?_)
    refine RC.done (rs := [.tmp 4, .tmp 5]) (vs := [_, _]) rfl rfl ⟨rfl, rfl, trivial⟩ ?_
    -- end 1
    exact ⟨S, .inl ⟨hno, rfl⟩⟩
  ·
    have hok : AOk A := (aokB_iff A).1 (by simpa using h3)
    have hmost := hok.most
    refine RC.skip (RC.back ?_)
    refine RC.seq ?_
    refine RC.region rfl ?_
    refine RL.alloc ze24 rfl rfl (fun b_6 w_6 e_6 z_6 hb_6 s_6 => ?_)
    have ge_6 := S.le e_6
    have n_2__6 := hb_2.ne e_6
    have S := S.trans s_6
    have hb_2 := hb_2.sub s_6
    refine RL.nil (RC.back ?_)
    refine RC.seq ?_
    refine RC.region rfl ?_
    refine RL.ev (.field0 fo26_0 rfl) rfl rfl ?_
    refine RL.ev (.load1 sh23 rfl (hb_2.cell rfl)) rfl rfl ?_
    refine RL.ev (.len sl23 rfl) rfl rfl ?_
    refine RL.makeSlice sl100 ze4 rfl rfl rfl rfl (by omega) rfl rfl (fun b_17 w_17 e_17 z_17 hb_17 s_17 => ?_)
    have ge_17 := S.le e_17
    have n_2__17 := hb_2.ne e_17
    have n_6__17 := hb_6.ne e_17
    have S := S.trans s_17
    have hb_2 := hb_2.sub s_17
    have hb_6 := hb_6.sub s_17
    have hF : Has w_17 b_17 ((flagsO A.nodes.length []).map Value.bool) 4 := by have := hb_17; rw [flagsO_nil, List.map_replicate]; rw [Int.toNat_natCast] at this; rw [← rep1]; exact this
    refine RL.alloc ze100 rfl rfl (fun b_7 w_7 e_7 z_7 hb_7 s_7 => ?_)
    have ge_7 := S.le e_7
    have n_2__7 := hb_2.ne e_7
    have n_6__7 := hb_6.ne e_7
    have n_17__7 := hF.ne e_7
    have S := S.trans s_7
    have hb_2 := hb_2.sub s_7
    have hb_6 := hb_6.sub s_7
    have hF := hF.sub s_7
    refine RL.store sh100 rfl rfl rfl hb_7 (by exact Nat.le_of_ble_eq_true rfl) (by rfl) rfl (fun w4 z4 hb_7 a4 => ?_)
    have S := S.upd a4 ge_7
    have hb_2 := hb_2.upd a4 n_2__7
    have hb_6 := hb_6.upd a4 n_6__7
    have hF := hF.upd a4 n_17__7
    refine RL.nil (RC.back ?_)
    refine RC.seq ?_
    refine RC.region rfl ?_
    refine RL.alloc ze85 rfl rfl (fun b_8 w_8 e_8 z_8 hb_8 s_8 => ?_)
    have ge_8 := S.le e_8
    have n_2__8 := hb_2.ne e_8
    have n_6__8 := hb_6.ne e_8
    have n_17__8 := hF.ne e_8
    have n_7__8 := hb_7.ne e_8
    have S := S.trans s_8
    have hb_2 := hb_2.sub s_8
    have hb_6 := hb_6.sub s_8
    have hF := hF.sub s_8
    have hb_7 := hb_7.sub s_8
    refine RL.nil (RC.back ?_)
    refine RC.seq ?_
    refine RC.region rfl ?_
    refine RL.ev (.func (xs := []) (ys := [_, _, _, _]) rfl rfl) rfl rfl ?_
    refine RL.store sh85 rfl rfl rfl hb_8 (by exact Nat.le_of_ble_eq_true rfl) (by rfl) rfl (fun w5 z5 hb_8 a5 => ?_)
    have S := S.upd a5 ge_8
    have hb_2 := hb_2.upd a5 n_2__8
    have hb_6 := hb_6.upd a5 n_6__8
    have hF := hF.upd a5 n_17__8
    have hb_7 := hb_7.upd a5 n_7__8
    have hb_8 : Has w5 b_8 ([selfV ⟨0, b_2, b_7, b_6, b_8, b_17⟩]) _ := hb_8
    obtain ⟨E, hE⟩ : ∃ E, E = w5.heap.size := ⟨_, rfl⟩
    have l2 := hb_2.lt
    have l6 := hb_6.lt
    have l7 := hb_7.lt
    have l8 := hb_8.lt
    have lF := hF.lt
    rw [← hE] at l2 l6 l7 l8 lF
    have szS := S.size
    have hB : BxOk w ⟨E, b_2, b_7, b_6, b_8, b_17⟩ := ⟨l2, l7, l6, l8, lF, ge_2, ge_7, ge_6, ge_8, ge_17, n_2__7, n_2__6, n_2__8, n_2__17, n_6__7.symm, n_7__8, n_17__7.symm, n_6__8, n_6__17, n_17__8.symm⟩
    refine RL.nil (RC.back ?_)
    refine RC.seq ?_
    refine RC.seq ?_
    refine RC.region rfl ?_
    refine RL.ev (.move rfl) rfl rfl ?_
    refine RL.ev (.len sl61 rfl) rfl rfl ?_
    refine RL.ev (.move rfl) rfl rfl ?_
    refine RL.nil (RC.back ?_)
    refine RC.block ?_
    refine RC.loop (α := Nat × Option Addr × Nat) (fun x => [(6, .pointer (some ⟨b_6, 0, none⟩)), (8, .pointer (some ⟨b_8, 0, none⟩)), (19, .slice pa l.length pc), (20, .int .i64 (l.length : Int)), (21, .int .i64 (x.1 : Int))]) (fun x w6 => x.1 ≤ l.length ∧ Pl A (metK A 513 l [] x.1) ∧ RS w ⟨E, b_2, b_7, b_6, b_8, b_17⟩ na fa nc fc A (metK A 513 l [] x.1) x.2.1 x.2.2 w6) (fun x => l.length - x.1) (0, none, 0) (keep_of (by repeat (first | exact trivial | refine And.intro rfl ?_))) (⟨Nat.zero_le _, Pl.nil A, hb_2, hb_7, hb_6, hb_8, hF, Ows.nil _ _ _ _, by show E ≤ _; omega, S⟩) (fun x w6 hJ => ?_)
    obtain ⟨i, a, c⟩ := x; obtain ⟨hi, hp, hs⟩ := hJ; simp only [] at hi hp hs; have hb_6 := hs.h6; have hb_8 := hs.h8; have hS := hs.S; simp only [] at hb_6 hb_8
    refine RC.seq ?_
    refine RC.region rfl ?_
    refine RL.ev (.bin rfl rfl rfl) rfl rfl ?_
    refine RL.nil (RC.back ?_)
    refine RC.seq ?_
    refine RC.cond_dec rfl (fun h7 => ?_) (fun h7 => ?_)
    ·
      obtain ⟨y, hy⟩ := getSome (l := l) (i := i) (by omega)
      refine RC.skip (RC.back ?_)
      refine RC.seq ?_
      refine RC.block ?_
      refine RC.seq ?_
      refine RC.region rfl ?_
      refine RL.ev (.indexS sl61 rfl rfl (by omega) (hP.is (i := 0) (by simp only [List.length_map]; omega))) rfl rfl ?_
      refine RL.ev (.load1 sh28 rfl ((hP.sub hS).one (enc := u6) (i := i) hy)) rfl rfl ?_
      refine RL.ev (.assign rfl) rfl rfl ?_
      refine RL.nil (RC.back ?_)
      refine RC.region rfl ?_
      refine RL.ev (.load1 sh85 rfl (hb_8.cell rfl)) rfl rfl ?_
      refine RL.ev (.move rfl) rfl rfl ?_
      refine RL.callv rfl rfl (us := []) (cs := [.pointer (some ⟨b_2, 0, none⟩), .pointer (some ⟨b_7, 0, none⟩), .pointer (some ⟨b_6, 0, none⟩), .pointer (some ⟨b_8, 0, none⟩)]) ok52 (c_reach1 w ⟨E, b_2, b_7, b_6, b_8, b_17⟩ hB na fa nc fc A hA hmost 513 _ a c y w6 (hli y (List.mem_of_getElem? hy)) (by omega) hp hs) rfl rfl ?_
      rintro _ w8 ⟨a2, c2, hs2⟩
      rw [← metK_succ hy] at hs2
      have hv := (metK_pl (n := 0) hy hp (by omega)).1
      refine RL.nil (RC.back ?_)
      refine RC.region rfl ?_
      refine RL.ev (.as (.bin rfl rfl rfl) (wi64 (y := ((i + 1 : Nat) : Int)) (by omega) (by omega))) rfl rfl ?_
      refine RL.ev (.move rfl) rfl rfl ?_
      exact RL.nil (fun a ka => ⟨(i + 1, a2, c2), ⟨by omega, hv, hs2⟩, by omega, ka.keep (keep_of (by repeat (first | exact trivial | refine And.intro rfl ?_)))⟩)
    ·
      obtain rfl : i = l.length := (by omega)
      have e0 := metK_all A 513 l [] rfl
      rw [e0] at hp hs hb_6
      have kc := hs.o.form
      refine RC.exit rfl (RC.back ?_)
      refine RC.seq ?_
      refine RC.region rfl ?_
      refine RL.ev (.load1 sh24 rfl (hb_6.cell rfl)) rfl rfl ?_
      refine RL.ev (.assign rfl) rfl rfl ?_
      refine RL.ev (.assign rfl) rfl rfl ?_
      refine RL.nil (RC.back ?_)
      refine RC.done (rs := [.tmp 4, .tmp 5]) (vs := [_, _]) rfl rfl ⟨rfl, rfl, trivial⟩ ?_
      -- end 2
      obtain ⟨_, c', e, k⟩ := kc
      cases e
      exact ⟨hS, .inr ⟨hok, _, _, rfl, by rw [List.length_map] at k; exact k, hp, fun N hN => hs.o.imm (fun k hk => by have := hN k hk; show k < E; omega)⟩⟩
end Go.Proofs.Ytefakjhfcgjhgaa
