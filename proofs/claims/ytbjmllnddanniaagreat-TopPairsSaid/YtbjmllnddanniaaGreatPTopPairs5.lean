/-
  What the law TopPairs leans on, part 5.
-/
import Derived.Test.YtbjmllnddanniaaGreatPTopPairs4
set_option linter.unusedVariables false
set_option linter.unusedSimpArgs false
namespace Go.Proofs.YtbjmllnddanniaaGreat
open Go Go.XL
def visitF (A : Ar) : Nat → List Int → Int → List Int
  | 0, out, _ => out
  | k + 1, out, r => match getA A r with
    | none => out
    | some x => if placeR r ∈ out then out else x.kids.foldl (visitF A k) (out ++ [placeR r])
theorem visitF_no {A : Ar} {k : Nat} {out : List Int} {r : Int} (h : getA A r = none) : visitF A (k + 1) out r = out := by rw [visitF, h]
theorem visitF_met {A : Ar} {k : Nat} {out : List Int} {r : Int} {x : Node} (h : getA A r = some x) (hm : placeR r ∈ out) : visitF A (k + 1) out r = out := by rw [visitF, h]; exact if_pos hm
theorem visitF_new {A : Ar} {k : Nat} {out : List Int} {r : Int} {x : Node} (h : getA A r = some x) (hm : placeR r ∉ out) : visitF A (k + 1) out r = x.kids.foldl (visitF A k) (out ++ [placeR r]) := by rw [visitF, h]; exact if_neg hm

structure Pl (A : Ar) (out : List Int) : Prop where
  nd : out.Nodup
  rng : ∀ p ∈ out, 0 ≤ p ∧ p < A.nodes.length
theorem Pl.nil (A : Ar) : Pl A [] := ⟨by simp, by simp⟩
theorem Pl.len {A : Ar} {out : List Int} (h : Pl A out) : out.length ≤ A.nodes.length := pigeon _ _ h.nd h.rng
theorem Pl.add {A : Ar} {out : List Int} {p : Int} (h : Pl A out) (hp : 0 ≤ p ∧ p < A.nodes.length) (hn : p ∉ out) : Pl A (out ++ [p]) :=
  ⟨by rw [List.nodup_append]; exact ⟨h.nd, by simp, fun a ha b hb e => by rw [List.mem_singleton] at hb; subst hb; subst e; exact hn ha⟩,
   fun q hq => (List.mem_append.1 hq).elim (h.rng q) (fun h => by rw [List.mem_singleton] at h; exact h ▸ hp)⟩
theorem visitF_pl (A : Ar) : ∀ (k : Nat) (out : List Int) (r : Int), Pl A out → Pl A (visitF A k out r) ∧ ∃ l, visitF A k out r = out ++ l
  | 0, out, r, h => ⟨h, [], by simp [visitF]⟩
  | k + 1, out, r, h => by
    cases hg : getA A r with
    | none => rw [visitF_no hg]; exact ⟨h, [], by simp⟩
    | some x =>
      by_cases hm : placeR r ∈ out
      · rw [visitF_met hg hm]; exact ⟨h, [], by simp⟩
      · rw [visitF_new hg hm]
        have key : ∀ (ks : List Int) (o : List Int), Pl A o → Pl A (ks.foldl (visitF A k) o) ∧ ∃ l, ks.foldl (visitF A k) o = o ++ l := by
          intro ks
          induction ks with
          | nil => intro o ho; exact ⟨ho, [], by simp⟩
          | cons q ks ih =>
            intro o ho
            obtain ⟨h1, l1, h2⟩ := visitF_pl A k o q ho
            obtain ⟨h3, l2, h4⟩ := ih _ h1
            exact ⟨h3, l1 ++ l2, by rw [List.foldl_cons, h4, h2, List.append_assoc]⟩
        obtain ⟨h1, l, h2⟩ := key x.kids _ (h.add (getA_rng hg) hm)
        exact ⟨h1, placeR r :: l, by rw [h2]; simp⟩
open Go Go.XL
def flagsO (n : Nat) (out : List Int) : List Bool := (List.range n).map fun (p : Nat) => decide ((p : Int) ∈ out)
theorem flagsO_len (n : Nat) (out : List Int) : (flagsO n out).length = n := by simp [flagsO]
theorem flagsO_get (n : Nat) (out : List Int) (x : Int) (h : 0 ≤ x ∧ x < n) : (flagsO n out)[x.toNat]? = some (decide (x ∈ out)) := by
  simp only [flagsO, List.getElem?_map, List.getElem?_range (show x.toNat < n by omega), Option.map_some]
  rw [Int.toNat_of_nonneg h.1]
theorem flagsO_set (n : Nat) (out : List Int) (x : Int) (h : 0 ≤ x ∧ x < n) : (flagsO n out).set x.toNat true = flagsO n (out ++ [x]) := by
  apply List.ext_getElem?
  intro k
  rw [List.getElem?_set, flagsO_len]
  by_cases hk : k < n
  · have h2 := flagsO_get n (out ++ [x]) k (by omega)
    have h3 := flagsO_get n out k (by omega)
    rw [Int.toNat_natCast] at h2 h3
    rw [h2, h3]
    by_cases e : x.toNat = k
    · rw [if_pos e, if_pos (by omega)]
      have : (k : Int) = x := by omega
      simp [this]
    · rw [if_neg e]
      have : ¬ (k : Int) = x := by omega
      simp [this]
  · rw [List.getElem?_eq_none (l := flagsO n (out ++ [x])) (by rw [flagsO_len]; omega), List.getElem?_eq_none (l := flagsO n out) (by rw [flagsO_len]; omega)]
    by_cases e : x.toNat = k
    · rw [if_pos e, if_neg (by omega)]
    · rw [if_neg e]

structure Bx where
  E : Nat
  b2 : Nat
  b7 : Nat
  b6 : Nat
  b8 : Nat
  bF : Nat
structure BxOk (w0 : World) (B : Bx) : Prop where
  lt2 : B.b2 < B.E
  lt7 : B.b7 < B.E
  lt6 : B.b6 < B.E
  lt8 : B.b8 < B.E
  ltF : B.bF < B.E
  ge2 : w0.heap.size ≤ B.b2
  ge7 : w0.heap.size ≤ B.b7
  ge6 : w0.heap.size ≤ B.b6
  ge8 : w0.heap.size ≤ B.b8
  geF : w0.heap.size ≤ B.bF
  n27 : B.b2 ≠ B.b7
  n26 : B.b2 ≠ B.b6
  n28 : B.b2 ≠ B.b8
  n2F : B.b2 ≠ B.bF
  n76 : B.b7 ≠ B.b6
  n78 : B.b7 ≠ B.b8
  n7F : B.b7 ≠ B.bF
  n68 : B.b6 ≠ B.b8
  n6F : B.b6 ≠ B.bF
  n8F : B.b8 ≠ B.bF
def selfV (B : Bx) : Value := .func (.func 168) #[] #[.pointer (some ⟨B.b2, 0, none⟩), .pointer (some ⟨B.b7, 0, none⟩), .pointer (some ⟨B.b6, 0, none⟩), .pointer (some ⟨B.b8, 0, none⟩)]
structure RS (w0 : World) (B : Bx) (na fa : Option Addr) (nc fc : Nat) (A : Ar) (out : List Int) (a : Option Addr) (c : Nat) (w : World) : Prop where
  h2 : Has w B.b2 [.slice na A.nodes.length nc, .slice fa A.free.length fc] 26
  h7 : Has w B.b7 [.slice (some ⟨B.bF, 0, none⟩) A.nodes.length A.nodes.length] 253
  h6 : Has w B.b6 [.slice a (out.map fun x => [i6 x]).length c] 24
  h8 : Has w B.b8 [selfV B] 183
  hF : Has w B.bF ((flagsO A.nodes.length out).map Value.bool) 4
  o : Ows B.E w 3 1 (.slice a (out.map fun x => [i6 x]).length c) (out.map fun x => [i6 x])
  sz : B.E ≤ w.heap.size
  S : Sub w0 w

theorem getV_form (A : Ar) (r : Int) : ∃ (y : Node) (e : Int), getV A r = .tuple #[y.val, .int .i64 e] ∧ (e = 0 → getA A r = some y) ∧ (¬ e = 0 → getA A r = none) := by
  cases h : getA A r with
  | none => exact ⟨bareN 0, 4, getV_no h, by omega, fun _ => rfl⟩
  | some x => exact ⟨x, 0, getV_yes h, fun _ => rfl, by omega⟩
def metK (A : Ar) (k : Nat) (ks o : List Int) (j : Nat) : List Int := (ks.take j).foldl (visitF A k) o
theorem metK_0 (A : Ar) (k : Nat) (ks o : List Int) : metK A k ks o 0 = o := by simp [metK]
theorem metK_all (A : Ar) (k : Nat) (ks o : List Int) {n : Nat} (h : ks.length = n) : metK A k ks o n = ks.foldl (visitF A k) o := by rw [metK, ← h, List.take_length]
theorem metK_succ {A : Ar} {k : Nat} {ks o : List Int} {j : Nat} {x : Int} (h : ks[j]? = some x) : metK A k ks o (j + 1) = visitF A k (metK A k ks o j) x := by
  rw [metK, List.take_add_one, h, List.foldl_append]; rfl
theorem metK_pl {A : Ar} {k : Nat} {ks o : List Int} {j : Nat} {x : Int} {n : Nat} (h : ks[j]? = some x) (hp : Pl A (metK A k ks o j)) (hn : n ≤ (metK A k ks o j).length) : Pl A (metK A k ks o (j + 1)) ∧ n ≤ (metK A k ks o (j + 1)).length := by
  have hv := visitF_pl A k _ x hp
  rw [metK_succ h]
  obtain ⟨h1, l, h2⟩ := hv
  exact ⟨h1, by rw [h2, List.length_append]; omega⟩
theorem c_reach1 (w0 : World) (B : Bx) (hB : BxOk w0 B) (na fa : Option Addr) (nc fc : Nat) (A : Ar) (hA : ArR w0 na fa A) (hn : A.nodes.length ≤ 512) : ∀ (k : Nat) (out : List Int) (a : Option Addr) (c : Nat) (r : Int) (w : World), U64 r → A.nodes.length < out.length + k → Pl A out → RS w0 B na fa nc fc A out a c w →
    FC Tryz.prog 168 [.int .u64 r, .pointer (some ⟨B.b2, 0, none⟩), .pointer (some ⟨B.b7, 0, none⟩), .pointer (some ⟨B.b6, 0, none⟩), .pointer (some ⟨B.b8, 0, none⟩)] w (fun _ w' => ∃ a' c', RS w0 B na fa nc fc A (visitF A k out r) a' c' w') := by
  intro k
  induction k with
  | zero => intro out a c r w _ hk hp; exact absurd hp.len (by omega)
  | succ k ih =>
  intro out a c r w hr hk hp hs
  obtain ⟨E, b2, b7, b6, b8, bF⟩ := B
  obtain ⟨l2, l7, l6, l8, lF, g2, g7, g6, g8, gF, n27, n26, n28, n2F, n76, n78, n7F, n68, n6F, n8F⟩ := hB
  obtain ⟨q2, q7, q6, q8, qF, o, szB, S⟩ := hs
  simp only [] at l2 l7 l6 l8 lF g2 g7 g6 g8 gF n27 n26 n28 n2F n76 n78 n7F n68 n6F n8F q2 q7 q6 q8 qF o szB
  obtain ⟨y, e, hgv, hg0, hg1⟩ := getV_form A r
  have hpp := hp.len
  have ge2 := g2; have ge7 := g7; have ge6 := g6; have ge8 := g8; have geF := gF
  refine FC.intro Tryz.func168 rfl Tryz.ntmps168 rfl ?_
  have d2 : ∀ k, ob (.slice a (out.map fun x => [i6 x]).length c) = some k → E ≤ k := fun k hk => (o.ge k hk).1
  have nb2_b7 : b2 ≠ b7 := by exact n27
  have nb2_b6 : b2 ≠ b6 := by exact n26
  have nb2_b8 : b2 ≠ b8 := by exact n28
  have nb2_bF : b2 ≠ bF := by exact n2F
  have nb7_b6 : b7 ≠ b6 := by exact n76
  have nb7_b8 : b7 ≠ b8 := by exact n78
  have nb7_bF : b7 ≠ bF := by exact n7F
  have nb6_b8 : b6 ≠ b8 := by exact n68
  have nb6_bF : b6 ≠ bF := by exact n6F
  have nb8_bF : b8 ≠ bF := by exact n8F
  refine RC.seq (RC.region rfl ?_);refine RL.eS (.loadR (_) sh26 rfl q2.row rfl) ?_;refine RL.mvS rfl ?_;refine RL.call rfl ok125 (c_aGet A na fa nc fc r hr w (hA.sub S)) rfl rfl ?_;rintro _ w1 ⟨rfl, s2⟩;have S := S.trans s2;have q2 := q2.sub s2;have q7 := q7.sub s2;have q6 := q6.sub s2;have q8 := q8.sub s2;have qF := qF.sub s2;have o := o.sub s2;have szB := Nat.le_trans szB s2.size;refine RL.eS (.as (v' := .tuple #[y.val, .int .i64 e]) (.move rfl) (by rw [hgv])) ?_;refine RL.eS (.extract rfl rfl) ?_;refine RL.eS (.extract rfl rfl) ?_;refine RL.alloc ze140 rfl rfl (fun b_6 w_6 e_6 z_6 hb_6 s_6 => ?_);have ge_6 := S.le e_6
  have n2__6 := q2.ne e_6
  have n7__6 := q7.ne e_6
  have n6__6 := q6.ne e_6
  have n8__6 := q8.ne e_6
  have nF__6 := qF.ne e_6
  have d_o_b_6 := o.neNew e_6;have S := S.trans s_6;have q2 := q2.sub s_6;have q7 := q7.sub s_6;have q6 := q6.sub s_6;have q8 := q8.sub s_6;have qF := qF.sub s_6;have o := o.sub s_6;have szB := Nat.le_trans szB s_6.size;refine RL.stS sh140 rfl rfl rfl hb_6 (fun w3 z3 hb_6 a3 => ?_);have S := S.upd a3 ge_6;have q2 := q2.upd a3 n2__6;have q7 := q7.upd a3 n7__6;have q6 := q6.upd a3 n6__6;have q8 := q8.upd a3 n8__6;have qF := qF.upd a3 nF__6;have o := o.updD a3 d_o_b_6;have szB := Nat.le_trans szB a3.size
  have hb_6 : Has w3 b_6 (y.cells) _ := hb_6.now (by kernel_rfl)
  refine RL.asS rfl ?_;refine RL.nil (RC.back (RC.seq (RC.region rfl ?_)));refine RL.mvS rfl ?_;refine RL.call rfl ok169 (c_refPlace r hr w3) rfl rfl ?_;rintro _ w4 ⟨rfl, s5⟩;have S := S.trans s5;have q2 := q2.sub s5;have q7 := q7.sub s5;have q6 := q6.sub s5;have q8 := q8.sub s5;have qF := qF.sub s5;have o := o.sub s5;have szB := Nat.le_trans szB s5.size;have hb_6 := hb_6.sub s5;refine RL.asS rfl ?_;refine RL.nil (RC.back (RC.seq (RC.seq (RC.region rfl ?_))));refine RL.mvS rfl ?_;refine RL.eS (.bin rfl rfl rfl) ?_;refine RL.mvS rfl ?_;refine RL.split 21 rfl (fun h6 => ?_) (fun h6 => ?_)
  ·
    have he := h6
    refine RL.offs 4 rfl ?_;refine RL.eS (.pick_t rfl rfl) ?_;refine RL.nil (RC.back ?_);refine RC.cond_t rfl ?_;refine RC.done (rs := []) (vs := []) rfl rfl trivial ?_
    rw [visitF_no (hg1 (by omega))]
    exact ⟨_, _, q2, q7, q6, q8, qF, o, szB, S⟩
  ·
    have hx := hg0 (by omega)
    have hrng := getA_rng hx
    refine RL.eS (.load1 sh253 rfl (q7.cell rfl)) ?_;refine RL.mvS rfl ?_;refine RL.eS (.indexO sl253 rfl rfl (by omega)) ?_;refine RL.eS (.load1 sh4 rfl (qF.cell (v := .bool (decide (placeR r ∈ out))) (by rw [Nat.mul_one, Nat.zero_add, List.getElem?_map, flagsO_get _ _ _ (by omega)]; rfl))) ?_;refine RL.eS (.pick_f rfl rfl) ?_;refine RL.nil (RC.back ?_);refine RC.cond_dec rfl (fun h7 => ?_) (fun h7 => ?_)
    ·
      have hin := h7
      refine RC.done (rs := []) (vs := []) rfl rfl trivial ?_
      rw [visitF_met hx hin]
      exact ⟨_, _, q2, q7, q6, q8, qF, o, szB, S⟩
    ·
      have hno := h7
      have hp2 := hp.add hrng hno
      have hpp2 := hp2.len
      rw [List.length_append] at hpp2
      refine RC.skip (RC.back (RC.seq (RC.region rfl ?_)));refine RL.eS (.load1 sh253 rfl (q7.cell rfl)) ?_;refine RL.mvS rfl ?_;refine RL.eS (.indexO sl253 rfl rfl (by omega)) ?_;refine RL.store sh4 rfl rfl rfl qF (by show 0 + (placeR r).toNat * 1 + 1 ≤ _; rw [List.length_map, flagsO_len]; omega) (by rfl) rfl (fun w8 z8 qF a8 => ?_);have S := S.upd a8 geF;have q2 := q2.upd a8 nb2_bF;have q7 := q7.upd a8 nb7_bF;have q6 := q6.upd a8 nb6_bF;have q8 := q8.upd a8 nb8_bF;have o := o.updD a8 (fun k hk e => absurd (o.ge k hk).1 (by omega));have szB := Nat.le_trans szB a8.size;have hb_6 := hb_6.upd a8 nF__6.symm
      have qF := (Has.set1 (enc := Value.bool) (i := (placeR r).toNat) (x := true) (by rw [Nat.zero_add, Nat.mul_one] at qF; exact qF))
      rw [flagsO_set _ _ _ hrng] at qF
      refine RL.nil (RC.back (RC.seq (RC.region rfl ?_)));refine RL.eS (.load1 sh24 rfl (q6.cell rfl)) ?_;refine RL.mvS rfl ?_;refine RL.buildSlice1 sl24 _ ze3 rfl rfl rfl rfl rfl rfl rfl (fun b_32 w_32 e_32 z_32 hb_32 s_32 => ?_)
      have n2__32 := q2.ne e_32
      have n7__32 := q7.ne e_32
      have n6__32 := q6.ne e_32
      have n8__32 := q8.ne e_32
      have nF__32 := qF.ne e_32
      have S := S.trans s_32;have q2 := q2.sub s_32;have q7 := q7.sub s_32;have q6 := q6.sub s_32;have q8 := q8.sub s_32;have qF := qF.sub s_32;have o := o.sub s_32;have szB := Nat.le_trans szB s_32.size;have hb_6 := hb_6.sub s_32;have sz_33 := S.size
      have ltb2_33 := q2.lt
      have ltb7_33 := q7.lt
      have ltb6_33 := q6.lt
      have ltb8_33 := q8.lt
      have ltbF_33 := qF.lt
      have ltb_6_33 := hb_6.lt
      have ltb_32_33 := hb_32.lt
      refine RL.append2 (base := E) (rows := out.map fun x => [i6 x]) (news := [_]) sl24 ze3 rfl rfl rfl rfl (.inl o) (Has.slOne hb_32) rfl (by intro r hr; rw [List.mem_singleton] at hr; subst hr; rfl) rfl (by (try simp only [List.length_map, List.length_nil, List.length_append, List.length_cons]); omega) (by (try simp only [List.length_map, List.length_nil, List.length_append, List.length_cons]); omega) (by omega) rfl rfl (fun v_33 w_33 hc_33 ho_33 ag_33 ob_33 => ?_)
      have o33 := ho_33 (.inl (by simp))
      rw [show _ ++ [_] = ((out ++ [placeR r]).map fun x => [i6 x]) from by rw [List.map_append]; rfl] at o33
      have d_o33_b6 := obNe ob_33 (fun k hk e => absurd (o.ge k hk).1 (by omega)) q6.lt
      have S := S.agrN ag_33 (fun k e => Nat.le_trans (by omega) e.2)
      have q2 := q2.step ag_33 (fun e => absurd e.2 (by omega));have q7 := q7.step ag_33 (fun e => absurd e.2 (by omega));have q6 := q6.step ag_33 (fun e => absurd e.2 (by omega));have q8 := q8.step ag_33 (fun e => absurd e.2 (by omega));have qF := qF.step ag_33 (fun e => absurd e.2 (by omega));have szB := Nat.le_trans szB ag_33.size;have hb_6 := hb_6.step ag_33 (fun e => d_o_b_6 _ e.1 rfl)
      obtain ⟨a_33, c_33, rfl, k_33⟩ := o33.form
      refine RL.stS sh24 rfl rfl rfl q6 (fun w9 z9 q6 a9 => ?_);have S := S.upd a9 ge6;have q2 := q2.upd a9 nb2_b6;have q7 := q7.upd a9 nb7_b6;have q8 := q8.upd a9 nb6_b8.symm;have qF := qF.upd a9 nb6_bF.symm;have szB := Nat.le_trans szB a9.size;have hb_6 := hb_6.upd a9 n6__6.symm;have o33 := o33.updD a9 d_o33_b6;refine RL.nil (RC.back (RC.seq (RC.region rfl ?_)));refine RL.eS (.field0 fo140_5 rfl) ?_;refine RL.eS (.loadR (y.kids.map u6) sh138 rfl (Has.row_at (pre := [i6 y.kind, i6 y.gen, i6 y.n, i6 y.v, i6 y.s]) (mid := y.kids.map u6) (post := [i6 y.pre, i6 y.suf]) hb_6 rfl) rfl) ?_;refine RL.mvS rfl ?_;refine RL.nil (RC.back (RC.block ?_));refine RC.loop (α := Nat × Option Addr × Nat) (fun x => [(4, .pointer (some ⟨b8, 0, none⟩)), (35, .agg (y.kids.map u6).toArray), (36, .int .i64 (x.1 : Int))]) (fun x w10 => x.1 ≤ 9 ∧ Pl A (metK A k y.kids (out ++ [placeR r]) x.1) ∧ out.length + 1 ≤ (metK A k y.kids (out ++ [placeR r]) x.1).length ∧ RS w0 ⟨E, b2, b7, b6, b8, bF⟩ na fa nc fc A (metK A k y.kids (out ++ [placeR r]) x.1) x.2.1 x.2.2 w10) (fun x => 9 - x.1) (0, a_33, c_33) (keep_of (by repeat (first | exact trivial | refine And.intro rfl ?_))) (⟨by omega, by rw [metK_0]; exact hp2, by rw [metK_0]; simp, by rw [metK_0]; exact ⟨q2, q7, q6, q8, qF, o33, szB, S⟩⟩) (fun x w10 hJ => ?_)
      obtain ⟨j, aj, cj⟩ := x; obtain ⟨hj, hpj, hlj, hs⟩ := hJ; obtain ⟨q2, q7, q6, q8, qF, o, szB, S⟩ := hs; simp only [] at hj hpj hlj q2 q7 q6 q8 qF o szB
      refine RC.seq (RC.region rfl ?_);refine RL.eS (.bin rfl rfl rfl) ?_;refine RL.nil (RC.back (RC.seq ?_));refine RC.cond_dec rfl (fun h11 => ?_) (fun h11 => ?_)
      ·
        obtain ⟨kj, hkj⟩ := getSome (l := y.kids) (i := j) (by show j < 9; omega)
        refine RC.skip (RC.back (RC.seq (RC.block (RC.seq (RC.region rfl ?_)))));refine RL.eS (.index1 ar138 sh31 rfl rfl (by omega) ((by simp [hkj] : (y.kids.map u6).toArray[(j : Int).toNat * 1]? = some (u6 kj)))) ?_;refine RL.asS rfl ?_;refine RL.nil (RC.back (RC.region rfl ?_));refine RL.eS (.load1 sh183 rfl (q8.cell rfl)) ?_;refine RL.mvS rfl ?_;refine RL.callv rfl rfl (us := []) (cs := [.pointer (some ⟨b2, 0, none⟩), .pointer (some ⟨b7, 0, none⟩), .pointer (some ⟨b6, 0, none⟩), .pointer (some ⟨b8, 0, none⟩)]) ok168 (ih _ aj cj kj w10 ((hA.nok y (getA_nok hx)).kids kj (List.mem_of_getElem? hkj)) (by omega) hpj ⟨q2, q7, q6, q8, qF, o, szB, S⟩) rfl rfl ?_;rintro _ w12 ⟨a2, c2, hs2⟩
        have hv := metK_pl hkj hpj hlj
        rw [← metK_succ hkj] at hs2
        refine RL.nil (RC.back (RC.region rfl ?_));refine RL.eS (.as (.bin rfl rfl rfl) (wi64 (y := ((j + 1 : Nat) : Int)) (by omega) (by omega))) ?_;refine RL.mvS rfl ?_
        exact RL.nil (fun a ka => ⟨(j + 1, a2, c2), ⟨by omega, hv.1, hv.2, hs2⟩, by omega, ka.keep (keep_of (by repeat (first | exact trivial | refine And.intro rfl ?_)))⟩)
      ·
        obtain rfl : j = 9 := (by omega)
        refine RC.exit rfl ?_
        refine fun a ka => ⟨ka.defers, _, run_results (rs := []) (vs := []) ka rfl trivial, ?_⟩
        rw [visitF_new hx hno, ← metK_all A k y.kids _ (n := 9) rfl]
        exact ⟨_, _, q2, q7, q6, q8, qF, o, szB, S⟩

def reachA (A : Ar) (l : List Int) : List Int := l.foldl (visitF A 513) []
theorem flagsO_nil (n : Nat) : flagsO n [] = List.replicate n false := by
  apply List.ext_getElem <;> simp [flagsO]
theorem c_aReach (A : Ar) (na fa : Option Addr) (nc fc : Nat) (l : List Int) (m : Nat) (hm : m = l.length) (pa : Option Addr) (pc : Nat) (hl : l.length ≤ 10000) (hli : ∀ x ∈ l, U64 x) (w : World) (hA : ArR w na fa A) (hP : Sl w pa 1 (l.map fun x => [u6 x])) :
  FC Tryz.prog 100 [arV na fa nc fc A, .slice pa m pc] w (fun v w' => Sub w w' ∧ (¬ AOk A ∧ v = .tuple #[.slice none 0 0, .int .i64 1] ∨
   AOk A ∧ ∃ a c, v = .tuple #[.slice a ((reachA A l).map fun x => [i6 x]).length c, .int .i64 0] ∧ (reachA A l).length ≤ c ∧ Pl A (reachA A l) ∧ ∀ N : Nat → Prop, (∀ k, N k → k < w.heap.size) → Imm N (fun u => Sl u a 1 ((reachA A l).map fun x => [i6 x])) w')) := by
 subst hm
 have hN := hA.nodes
 have hFr := hA.free
 refine FC.intro Tryz.func100 rfl Tryz.ntmps100 rfl ?_
 have S := Sub.refl w
 refine RC.seq (RC.region rfl ?_);refine RL.box rfl rfl rfl (fun b_2 w_2 e_2 z_2 hb_2 s_2 => ?_);have ge_2 := S.le e_2;have S := S.trans s_2
 have hb_2 : Has w_2 b_2 ([.slice na A.nodes.length nc, .slice fa A.free.length fc]) _ := hb_2
 refine RL.asS rfl ?_;refine RL.asS rfl ?_;refine RL.nil (RC.back (RC.seq (RC.seq (RC.region rfl ?_))));refine RL.eS (.loadR ([.slice na A.nodes.length nc, .slice fa A.free.length fc]) sh26 rfl hb_2.row rfl) ?_;refine RL.call rfl ok109 (c_aRight A na fa nc fc w_2 (hA.sub S)) rfl rfl ?_;rintro _ w1 ⟨rfl, s2⟩;have S := S.trans s2;have hb_2 := hb_2.sub s2;refine RL.eS (.not rfl) ?_;refine RL.nil (RC.back ?_);refine RC.cond rfl (fun h3 => ?_) (fun h3 => ?_)
 ·
  have hno : ¬ AOk A := (fun h => by have h2 := h3; rw [aokB_yes h] at h2; cases h2)
  refine RC.seq (RC.region rfl ?_);refine RL.asS rfl ?_;refine RL.asS rfl ?_;refine RL.nil (RC.back ?_);refine RC.done (rs := [.tmp 4, .tmp 5]) (vs := [_, _]) rfl rfl ⟨rfl, rfl, trivial⟩ ?_
  exact ⟨S, .inl ⟨hno, rfl⟩⟩
 ·
  have hok : AOk A := (aokB_iff A).1 (by simpa using h3)
  have hmost := hok.most
  refine RC.skip (RC.back (RC.seq (RC.region rfl ?_)));refine RL.alloc ze24 rfl rfl (fun b_6 w_6 e_6 z_6 hb_6 s_6 => ?_);have ge_6 := S.le e_6;have n_2__6 := hb_2.ne e_6;have S := S.trans s_6;have hb_2 := hb_2.sub s_6;refine RL.nil (RC.back (RC.seq (RC.region rfl ?_)));refine RL.eS (.field0 fo26_0 rfl) ?_;refine RL.eS (.load1 sh23 rfl (hb_2.cell rfl)) ?_;refine RL.eS (.len sl23 rfl) ?_;refine RL.makeSlice sl253 ze4 rfl rfl rfl rfl (by omega) rfl rfl (fun b_17 w_17 e_17 z_17 hb_17 s_17 => ?_);have ge_17 := S.le e_17;have n_2__17 := hb_2.ne e_17;have n_6__17 := hb_6.ne e_17;have S := S.trans s_17;have hb_2 := hb_2.sub s_17;have hb_6 := hb_6.sub s_17
  have hF : Has w_17 b_17 ((flagsO A.nodes.length []).map Value.bool) 4 := by have := hb_17; rw [flagsO_nil, List.map_replicate]; rw [Int.toNat_natCast] at this; rw [← rep1]; exact this
  refine RL.alloc ze253 rfl rfl (fun b_7 w_7 e_7 z_7 hb_7 s_7 => ?_);have ge_7 := S.le e_7;have n_2__7 := hb_2.ne e_7;have n_6__7 := hb_6.ne e_7;have n_17__7 := hF.ne e_7;have S := S.trans s_7;have hb_2 := hb_2.sub s_7;have hb_6 := hb_6.sub s_7;have hF := hF.sub s_7;refine RL.stS sh253 rfl rfl rfl hb_7 (fun w4 z4 hb_7 a4 => ?_);have S := S.upd a4 ge_7;have hb_2 := hb_2.upd a4 n_2__7;have hb_6 := hb_6.upd a4 n_6__7;have hF := hF.upd a4 n_17__7;refine RL.nil (RC.back (RC.seq (RC.region rfl ?_)));refine RL.alloc ze183 rfl rfl (fun b_8 w_8 e_8 z_8 hb_8 s_8 => ?_);have ge_8 := S.le e_8;have n_2__8 := hb_2.ne e_8;have n_6__8 := hb_6.ne e_8;have n_17__8 := hF.ne e_8;have n_7__8 := hb_7.ne e_8;have S := S.trans s_8;have hb_2 := hb_2.sub s_8;have hb_6 := hb_6.sub s_8;have hF := hF.sub s_8;have hb_7 := hb_7.sub s_8;refine RL.nil (RC.back (RC.seq (RC.region rfl ?_)));refine RL.eS (.func (xs := []) (ys := [_, _, _, _]) rfl rfl) ?_;refine RL.stS sh183 rfl rfl rfl hb_8 (fun w5 z5 hb_8 a5 => ?_);have S := S.upd a5 ge_8;have hb_2 := hb_2.upd a5 n_2__8;have hb_6 := hb_6.upd a5 n_6__8;have hF := hF.upd a5 n_17__8;have hb_7 := hb_7.upd a5 n_7__8
  have hb_8 : Has w5 b_8 ([selfV ⟨0, b_2, b_7, b_6, b_8, b_17⟩]) _ := hb_8
  obtain ⟨E, hE⟩ : ∃ E, E = w5.heap.size := ⟨_, rfl⟩
  have l2 := hb_2.lt
  have l6 := hb_6.lt
  have l7 := hb_7.lt
  have l8 := hb_8.lt
  have lF := hF.lt
  rw [← hE] at l2 l6 l7 l8 lF
  have szS := S.size
  have hB : BxOk w ⟨E, b_2, b_7, b_6, b_8, b_17⟩ := ⟨l2, l7, l6, l8, lF, ge_2, ge_7, ge_6, ge_8, ge_17, n_2__7, n_2__6, n_2__8, n_2__17, n_6__7.symm, n_7__8, n_17__7.symm, n_6__8, n_6__17, n_17__8.symm⟩
  refine RL.nil (RC.back (RC.seq (RC.seq (RC.region rfl ?_))));refine RL.mvS rfl ?_;refine RL.eS (.len sl73 rfl) ?_;refine RL.mvS rfl ?_;refine RL.nil (RC.back (RC.block ?_));refine RC.loop (α := Nat × Option Addr × Nat) (fun x => [(6, .pointer (some ⟨b_6, 0, none⟩)), (8, .pointer (some ⟨b_8, 0, none⟩)), (19, .slice pa l.length pc), (20, .int .i64 (l.length : Int)), (21, .int .i64 (x.1 : Int))]) (fun x w6 => x.1 ≤ l.length ∧ Pl A (metK A 513 l [] x.1) ∧ RS w ⟨E, b_2, b_7, b_6, b_8, b_17⟩ na fa nc fc A (metK A 513 l [] x.1) x.2.1 x.2.2 w6) (fun x => l.length - x.1) (0, none, 0) (keep_of (by repeat (first | exact trivial | refine And.intro rfl ?_))) (⟨Nat.zero_le _, Pl.nil A, hb_2, hb_7, hb_6, hb_8, hF, Ows.nil _ _ _ _, by show E ≤ _; omega, S⟩) (fun x w6 hJ => ?_)
  obtain ⟨i, a, c⟩ := x; obtain ⟨hi, hp, hs⟩ := hJ; simp only [] at hi hp hs; have hb_6 := hs.h6; have hb_8 := hs.h8; have hS := hs.S; simp only [] at hb_6 hb_8
  refine RC.seq (RC.region rfl ?_);refine RL.eS (.bin rfl rfl rfl) ?_;refine RL.nil (RC.back (RC.seq ?_));refine RC.cond_dec rfl (fun h7 => ?_) (fun h7 => ?_)
  ·
   obtain ⟨y, hy⟩ := getSome (l := l) (i := i) (by omega)
   refine RC.skip (RC.back (RC.seq (RC.block (RC.seq (RC.region rfl ?_)))));refine RL.eS (.indexS sl73 rfl rfl (by omega) (hP.is (i := 0) (by simp only [List.length_map, List.length_cons, List.length_nil]; omega))) ?_;refine RL.eS (.load1 sh31 rfl ((hP.sub hS).one (enc := u6) (i := i) hy)) ?_;refine RL.asS rfl ?_;refine RL.nil (RC.back (RC.region rfl ?_));refine RL.eS (.load1 sh183 rfl (hb_8.cell rfl)) ?_;refine RL.mvS rfl ?_;refine RL.callv rfl rfl (us := []) (cs := [.pointer (some ⟨b_2, 0, none⟩), .pointer (some ⟨b_7, 0, none⟩), .pointer (some ⟨b_6, 0, none⟩), .pointer (some ⟨b_8, 0, none⟩)]) ok168 (c_reach1 w ⟨E, b_2, b_7, b_6, b_8, b_17⟩ hB na fa nc fc A hA hmost 513 _ a c y w6 (hli y (List.mem_of_getElem? hy)) (by omega) hp hs) rfl rfl ?_;rintro _ w8 ⟨a2, c2, hs2⟩
   rw [← metK_succ hy] at hs2
   have hv := (metK_pl (n := 0) hy hp (by omega)).1
   refine RL.nil (RC.back (RC.region rfl ?_));refine RL.eS (.as (.bin rfl rfl rfl) (wi64 (y := ((i + 1 : Nat) : Int)) (by omega) (by omega))) ?_;refine RL.mvS rfl ?_
   exact RL.nil (fun a ka => ⟨(i + 1, a2, c2), ⟨by omega, hv, hs2⟩, by omega, ka.keep (keep_of (by repeat (first | exact trivial | refine And.intro rfl ?_)))⟩)
  ·
   obtain rfl : i = l.length := (by omega)
   have e0 := metK_all A 513 l [] rfl
   rw [e0] at hp hs hb_6
   have kc := hs.o.form
   refine RC.exit rfl (RC.back (RC.seq (RC.region rfl ?_)));refine RL.eS (.load1 sh24 rfl (hb_6.cell rfl)) ?_;refine RL.asS rfl ?_;refine RL.asS rfl ?_;refine RL.nil (RC.back ?_);refine RC.done (rs := [.tmp 4, .tmp 5]) (vs := [_, _]) rfl rfl ⟨rfl, rfl, trivial⟩ ?_
   obtain ⟨_, c', e, k⟩ := kc
   cases e
   exact ⟨hS, .inr ⟨hok, _, _, rfl, by rw [List.length_map] at k; exact k, hp, fun N hN => hs.o.imm (fun k hk => by have := hN k hk; show k < E; omega)⟩⟩
def hNode (g n v s a b : Int) : Node := ⟨6, g, n, v, s, a, b, 0, 0, 0, 0, 0, 0, 0, 0, 0⟩
def hBare (x : Node) : Node := hNode x.gen x.n x.v x.s x.k0 x.k1
def itN (x : Node) : It := ⟨x.n, x.v⟩
inductive HF (A : Ar) : Int → List Int → List It → Prop
  | nil : HF A 0 [] []
  | node {r : Int} {x : Node} {P Q : List Int} {L R : List It} : getA A r = some x → hBare x = x → x.s = L.length + 1 → (∀ y ∈ L, ¬ lessP y (itN x)) → HF A x.k0 P L → HF A x.k1 Q R → HF A r (placeR r :: (P ++ Q)) (itN x :: (L ++ R))
theorem notless_trans {x y z : It} (h : ¬ lessP y x) (k : ¬ lessP z y) : ¬ lessP z x := by unfold lessP at *; omega
theorem HF.unique {A : Ar} {r : Int} {P : List Int} {L : List It} (h : HF A r P L) : ∀ {P' : List Int} {L' : List It}, HF A r P' L' → P' = P ∧ L' = L := by
  induction h with
  | nil =>
    intro P' L' h
    cases h with
    | nil => exact ⟨rfl, rfl⟩
    | node h1 => rw [getA_0] at h1; cases h1
  | @node r x P Q L R h1 _ _ _ _ _ ih1 ih2 =>
    intro P' L' h
    cases h with
    | nil => rw [getA_0] at h1; cases h1
    | @node _ y P2 Q2 L2 R2 g1 _ _ _ g2 g3 =>
      rw [h1] at g1
      cases g1
      obtain ⟨rfl, rfl⟩ := ih1 g2
      obtain ⟨rfl, rfl⟩ := ih2 g3
      exact ⟨rfl, rfl⟩
def hmF (A : Ar) : Nat → Int → It → List Int → Int → Int → Int × List Int
  | 0, _, _, out, _, _ => (-1, out)
  | k + 1, r, b, out, sum, left => if r = 0 then (sum, out) else match getA A r with
    | none => (-1, out)
    | some x => if left ≤ sum ∨ ¬ x.kind = 6 ∨ placeR r ∈ out ∨ lessP (itN x) b then (-1, out) else
      if (hmF A k x.k0 (itN x) (out ++ [placeR r]) 0 (left - sum - 1)).1 < 0 ∨ ¬ hBare x = x ∨ ¬ (hmF A k x.k0 (itN x) (out ++ [placeR r]) 0 (left - sum - 1)).1 + 1 = x.s then (-1, (hmF A k x.k0 (itN x) (out ++ [placeR r]) 0 (left - sum - 1)).2) else
      hmF A k x.k1 b (hmF A k x.k0 (itN x) (out ++ [placeR r]) 0 (left - sum - 1)).2 (sum + (hmF A k x.k0 (itN x) (out ++ [placeR r]) 0 (left - sum - 1)).1 + 1) left
section
variable {A : Ar} {k : Nat} {r sum left m : Int} {b : It} {x : Node} {out o : List Int}
theorem hmF_0 : hmF A (k + 1) 0 b out sum left = (sum, out) := by rw [hmF]; exact if_pos rfl
theorem hmF_none (hr : ¬ r = 0) (h : getA A r = none) : hmF A (k + 1) r b out sum left = (-1, out) := by rw [hmF, if_neg hr, h]
theorem hmF_bad (hr : ¬ r = 0) (h : getA A r = some x) (hb : left ≤ sum ∨ ¬ x.kind = 6 ∨ placeR r ∈ out ∨ lessP (itN x) b) : hmF A (k + 1) r b out sum left = (-1, out) := by rw [hmF, if_neg hr, h]; exact if_pos hb
theorem hmF_kid (hr : ¬ r = 0) (h : getA A r = some x) (hb : ¬ (left ≤ sum ∨ ¬ x.kind = 6 ∨ placeR r ∈ out ∨ lessP (itN x) b)) (e : hmF A k x.k0 (itN x) (out ++ [placeR r]) 0 (left - sum - 1) = (m, o)) (hp : m < 0 ∨ ¬ hBare x = x ∨ ¬ m + 1 = x.s) : hmF A (k + 1) r b out sum left = (-1, o) := by
  rw [hmF, if_neg hr, h]; simp only []; rw [if_neg hb, e]; exact if_pos hp
theorem hmF_next (hr : ¬ r = 0) (h : getA A r = some x) (hb : ¬ (left ≤ sum ∨ ¬ x.kind = 6 ∨ placeR r ∈ out ∨ lessP (itN x) b)) (e : hmF A k x.k0 (itN x) (out ++ [placeR r]) 0 (left - sum - 1) = (m, o)) (hp : ¬ (m < 0 ∨ ¬ hBare x = x ∨ ¬ m + 1 = x.s)) : hmF A (k + 1) r b out sum left = hmF A k x.k1 b o (sum + m + 1) left := by
  rw [hmF, if_neg hr, h]; simp only []; rw [if_neg hb, e]; exact if_neg hp
end
theorem hmF_le (A : Ar) : ∀ (k : Nat) (r : Int) (b : It) (out : List Int) (sum left : Int), 0 ≤ sum → sum ≤ left → Pl A out → -1 ≤ (hmF A k r b out sum left).1 ∧ (hmF A k r b out sum left).1 ≤ left ∧ Pl A (hmF A k r b out sum left).2
  | 0, r, b, out, sum, left, h0, h1, hp => ⟨by rw [hmF]; exact Int.le_refl _, by rw [hmF]; show (-1 : Int) ≤ left; omega, by rw [hmF]; exact hp⟩
  | k + 1, r, b, out, sum, left, h0, h1, hp => by
    by_cases hr : r = 0
    · rw [hr, hmF_0]; exact ⟨by show -1 ≤ sum; omega, h1, hp⟩
    cases hg : getA A r with
    | none => rw [hmF_none hr hg]; exact ⟨Int.le_refl _, by show (-1 : Int) ≤ left; omega, hp⟩
    | some x =>
      by_cases hb : left ≤ sum ∨ ¬ x.kind = 6 ∨ placeR r ∈ out ∨ lessP (itN x) b
      · rw [hmF_bad hr hg hb]; exact ⟨Int.le_refl _, by show (-1 : Int) ≤ left; omega, hp⟩
      have hls : ¬ left ≤ sum := fun e => hb (.inl e)
      have hni : placeR r ∉ out := fun e => hb (.inr (.inr (.inl e)))
      have hp2 : Pl A (out ++ [placeR r]) := hp.add (getA_rng hg) hni
      have i1 := hmF_le A k x.k0 (itN x) (out ++ [placeR r]) 0 (left - sum - 1) (Int.le_refl _) (by omega) hp2
      obtain ⟨⟨m, o⟩, e⟩ : ∃ p, p = hmF A k x.k0 (itN x) (out ++ [placeR r]) 0 (left - sum - 1) := ⟨_, rfl⟩
      rw [← e] at i1
      simp only [] at i1
      by_cases hq : m < 0 ∨ ¬ hBare x = x ∨ ¬ m + 1 = x.s
      · rw [hmF_kid hr hg hb e.symm hq]; exact ⟨Int.le_refl _, by show (-1 : Int) ≤ left; omega, i1.2.2⟩
      · rw [hmF_next hr hg hb e.symm hq]
        have hm0 : ¬ m < 0 := fun h => hq (.inl h)
        exact hmF_le A k x.k1 b o (sum + m + 1) left (by omega) (by omega) i1.2.2
theorem hmF_sound (A : Ar) : ∀ (k : Nat) (r : Int) (b : It) (out : List Int) (sum left m : Int) (o : List Int), 0 ≤ sum → sum ≤ left → Pl A out → hmF A k r b out sum left = (m, o) → 0 ≤ m → ∃ P L, HF A r P L ∧ m = sum + L.length ∧ o = out ++ P ∧ (∀ y ∈ L, ¬ lessP y b)
  | 0, r, b, out, sum, left, m, o, _, _, _, h, hm => by rw [hmF] at h; cases h; omega
  | k + 1, r, b, out, sum, left, m, o, h0, h1, hp, h, hm => by
    by_cases hr : r = 0
    · rw [hr, hmF_0] at h; cases h; exact ⟨[], [], hr ▸ .nil, by simp, by simp, fun y hy => by cases hy⟩
    cases hg : getA A r with
    | none => rw [hmF_none hr hg] at h; cases h; omega
    | some x =>
      by_cases hb : left ≤ sum ∨ ¬ x.kind = 6 ∨ placeR r ∈ out ∨ lessP (itN x) b
      · rw [hmF_bad hr hg hb] at h; cases h; omega
      have hls : ¬ left ≤ sum := fun e => hb (.inl e)
      have hni : placeR r ∉ out := fun e => hb (.inr (.inr (.inl e)))
      have hlx : ¬ lessP (itN x) b := fun e => hb (.inr (.inr (.inr e)))
      have hp2 : Pl A (out ++ [placeR r]) := hp.add (getA_rng hg) hni
      have i1 := hmF_le A k x.k0 (itN x) (out ++ [placeR r]) 0 (left - sum - 1) (Int.le_refl _) (by omega) hp2
      obtain ⟨⟨m1, o1⟩, e⟩ : ∃ p, p = hmF A k x.k0 (itN x) (out ++ [placeR r]) 0 (left - sum - 1) := ⟨_, rfl⟩
      rw [← e] at i1
      simp only [] at i1
      by_cases hq : m1 < 0 ∨ ¬ hBare x = x ∨ ¬ m1 + 1 = x.s
      · rw [hmF_kid hr hg hb e.symm hq] at h; cases h; omega
      rw [hmF_next hr hg hb e.symm hq] at h
      have hm0 : ¬ m1 < 0 := fun h => hq (.inl h)
      have hbare : hBare x = x := Decidable.not_not.1 fun h => hq (.inr (.inl h))
      have hs : m1 + 1 = x.s := Decidable.not_not.1 fun h => hq (.inr (.inr h))
      obtain ⟨P, L, hL, e1, e2, e3⟩ := hmF_sound A k x.k0 (itN x) (out ++ [placeR r]) 0 (left - sum - 1) m1 o1 (Int.le_refl _) (by omega) hp2 e.symm (by omega)
      obtain ⟨Q, R, hR, e4, e5, e6⟩ := hmF_sound A k x.k1 b o1 (sum + m1 + 1) left m o (by omega) (by omega) i1.2.2 h hm
      refine ⟨_, _, .node hg hbare (by omega) e3 hL hR, by simp only [List.length_cons, List.length_append]; omega, by rw [e5, e2]; simp, fun y hy => ?_⟩
      rcases List.mem_cons.1 hy with rfl | hy
      · exact hlx
      · exact (List.mem_append.1 hy).elim (fun h => notless_trans hlx (e3 y h)) (e6 y)
theorem hmF_complete {A : Ar} {r : Int} {P : List Int} {L : List It} (h : HF A r P L) : ∀ (k : Nat) (b : It) (out : List Int) (sum left : Int), 0 ≤ sum → sum + L.length ≤ left → left - sum < k → (out ++ P).Nodup → (∀ y ∈ L, ¬ lessP y b) → hmF A k r b out sum left = (sum + L.length, out ++ P) := by
  induction h with
  | nil =>
    intro k b out sum left h0 h1 h2 _ _
    cases k with
    | zero => simp at h1; omega
    | succ k => rw [hmF_0]; simp
  | @node r x P Q L R g1 g2 g3 g4 _ _ ih1 ih2 =>
    intro k b out sum left h0 h1 h2 hn hb
    simp only [List.length_cons, List.length_append] at h1
    cases k with
    | zero => omega
    | succ k =>
      have hr : ¬ r = 0 := fun e => by rw [e, getA_0] at g1; cases g1
      have hk : x.kind = 6 := by rw [← g2]; rfl
      have hni : placeR r ∉ out := fun e => by
        rw [List.nodup_append] at hn
        exact hn.2.2 _ e _ (by simp) rfl
      have hn1 : (out ++ [placeR r] ++ P ++ Q).Nodup := by simpa using hn
      have hok : ¬ (left ≤ sum ∨ ¬ x.kind = 6 ∨ placeR r ∈ out ∨ lessP (itN x) b) := by
        rintro (e | e | e | e)
        · omega
        · exact e hk
        · exact hni e
        · exact hb (itN x) (by simp) e
      have e1 := ih1 k (itN x) (out ++ [placeR r]) 0 (left - sum - 1) (Int.le_refl _) (by omega) (by omega) (List.nodup_append.1 hn1).1 g4
      rw [hmF_next hr g1 hok e1 (by rintro (e | e | e); omega; exact e g2; omega)]
      rw [ih2 k b (out ++ [placeR r] ++ P) (sum + (0 + (L.length : Int)) + 1) left (by omega) (by omega) (by omega) hn1 (fun y hy => hb y (by simp [hy]))]
      simp only [List.length_cons, List.length_append, List.append_assoc, List.cons_append, List.nil_append]
      exact Prod.ext (by show _ = sum + (((L.length + R.length + 1 : Nat)) : Int); omega) rfl
def topIt (A : Ar) (r : Int) : It := match getA A r with | some x => itN x | none => ⟨0, 0⟩
def topK1 (A : Ar) (r : Int) : Int := match getA A r with | some x => x.k1 | none => 0
structure IsP (A : Ar) (r : Int) (P : List Int) (L : List It) : Prop where
  hf : HF A r P L
  nd : P.Nodup
  len : L.length ≤ 200
  one : topK1 A r = 0
def hpOk (A : Ar) (r : Int) : Bool := !(decide ((hmF A 201 r (topIt A r) [] 0 200).1 < 0) || decide (¬ topK1 A r = 0))
theorem HF.top {A : Ar} {r : Int} {P : List Int} {L : List It} (h : HF A r P L) (h1 : topK1 A r = 0) : ∀ y ∈ L, ¬ lessP y (topIt A r) := by
  cases h with
  | nil => intro y hy; cases hy
  | @node _ x P Q L R g1 g2 g3 g4 hl hr =>
    have e1 : topIt A r = itN x := by unfold topIt; rw [g1]
    have e2 : x.k1 = 0 := by unfold topK1 at h1; rw [g1] at h1; exact h1
    rw [e1]
    rw [e2] at hr
    obtain ⟨rfl, rfl⟩ := HF.unique .nil hr
    intro y hy
    rcases List.mem_cons.1 hy with rfl | hy
    · unfold lessP; omega
    · exact g4 y (by simpa using hy)
theorem hpOk_iff (A : Ar) (r : Int) : hpOk A r = true ↔ ∃ P L, IsP A r P L := by
  unfold hpOk
  constructor
  · intro h
    obtain ⟨⟨m, o⟩, e⟩ : ∃ p, p = hmF A 201 r (topIt A r) [] 0 200 := ⟨_, rfl⟩
    have h5 := hmF_le A 201 r (topIt A r) [] 0 200 (Int.le_refl _) (by omega) (Pl.nil A)
    rw [← e] at h h5
    simp only [Bool.not_eq_true', Bool.or_eq_false_iff, decide_eq_false_iff_not, Decidable.not_not] at h h5
    obtain ⟨P, L, h1, h2, h3, h4⟩ := hmF_sound A 201 r (topIt A r) [] 0 200 m o (Int.le_refl _) (by omega) (Pl.nil A) e.symm (by omega)
    refine ⟨P, L, h1, ?_, by omega, h.2⟩
    have := h5.2.2.nd
    rw [h3] at this
    simpa using this
  · rintro ⟨P, L, h⟩
    rw [hmF_complete h.hf 201 (topIt A r) [] 0 200 (Int.le_refl _) (by have := h.len; omega) (by omega) (by simpa using h.nd) (h.hf.top h.one)]
    simp only [Bool.not_eq_true', Bool.or_eq_false_iff, decide_eq_false_iff_not, Decidable.not_not]
    exact ⟨by show ¬ (0 : Int) + L.length < 0; omega, h.one⟩
theorem IsP.unique {A : Ar} {r : Int} {P P' : List Int} {L L' : List It} (h : IsP A r P L) (k : IsP A r P' L') : P' = P ∧ L' = L := h.hf.unique k.hf
theorem IsP.zero (A : Ar) : IsP A 0 [] [] := ⟨.nil, List.nodup_nil, by simp, by unfold topK1; rw [getA_0]⟩
theorem srt_exists : ∀ {l : List It}, Ap l → ∃ m, List.Perm m l ∧ Srt m
  | [], _ => ⟨[], List.Perm.refl _, List.Pairwise.nil⟩
  | x :: l, h => by
    obtain ⟨h1, h2⟩ := List.pairwise_cons.1 h
    obtain ⟨m, p, s⟩ := srt_exists h2
    refine ⟨putL m x.k x.v, putL_putM.trans ?_, s.put⟩
    unfold putM
    rw [delL_none fun y hy e => h1 y (p.mem_iff.1 hy) e.symm]
    exact List.Perm.cons x p
def rdF (A : Ar) : Nat → Int → List It
  | 0, _ => []
  | k + 1, r => match getA A r with
    | none => []
    | some y => if y.kind = 3 then [⟨y.n, y.v⟩] else y.kids.flatMap (rdF A k)
theorem rdF_no {A : Ar} {k : Nat} {r : Int} (h : getA A r = none) : rdF A k r = [] := by cases k with | zero => rfl | succ k => rw [rdF, h]
theorem rdF_leaf {A : Ar} {k : Nat} {r : Int} {x : It} (h : lfA A r x) : rdF A (k + 1) r = [x] := by obtain ⟨g, h⟩ := h; rw [rdF, h]; rfl
theorem rdF_node {A : Ar} {k : Nat} {r : Int} {y : Node} (h : getA A r = some y) (h3 : ¬ y.kind = 3) : rdF A (k + 1) r = y.kids.flatMap (rdF A k) := by rw [rdF, h]; exact if_neg h3
theorem kids4 {α : Type} {y : Node} (h : ∀ j, 4 ≤ j → j < 9 → y.kids.getD j 0 = 0) (f : Int → List α) (f0 : f 0 = []) : y.kids.flatMap f = f (y.kids.getD 0 0) ++ (f (y.kids.getD 1 0) ++ (f (y.kids.getD 2 0) ++ f (y.kids.getD 3 0))) := by
  have h4 : y.k4 = 0 := h 4 (by omega) (by omega)
  have h5 : y.k5 = 0 := h 5 (by omega) (by omega)
  have h6 : y.k6 = 0 := h 6 (by omega) (by omega)
  have h7 : y.k7 = 0 := h 7 (by omega) (by omega)
  have h8 : y.k8 = 0 := h 8 (by omega) (by omega)
  simp only [Node.kids, List.flatMap_cons, List.flatMap_nil, h4, h5, h6, h7, h8, f0, List.append_nil, List.nil_append]
  rfl
theorem trie_zero {A : Ar} {k : Nat} {r : Int} {L : List It} (h : IsH A (k + 1) r L) (hl : 2 ≤ L.length) : ∃ y, getA A r = some y ∧ y.kind = 2 ∧ y.s = L.length ∧ (∀ i, i < 4 → IsH A k (y.kids.getD i 0) (ofL (9 - k) i L)) ∧ ∀ j, 4 ≤ j → j < 9 → y.kids.getD j 0 = 0 := by
  obtain ⟨g, ks, h1, h2, h3⟩ := (isH_trie hl).1 h
  exact ⟨_, h2, rfl, rfl, fun i hi => by rw [hN_kid (by omega)]; exact h3 i hi, fun j h4 h9 => by rw [hN_kid h9, List.getD_eq_getElem?_getD, List.getElem?_eq_none (by omega)]; rfl⟩
theorem flat_leaves {α : Type} {f : Int → List α} {g : It → α} : ∀ (ks : List Int) (m : List It), (∀ i x, m[i]? = some x → f (ks.getD i 0) = [g x]) → (∀ i, m.length ≤ i → i < ks.length → f (ks.getD i 0) = []) → m.length ≤ ks.length → ks.flatMap f = m.map g
  | [], m, _, _, hl => by rw [List.eq_nil_of_length_eq_zero (show m.length = 0 by simpa using hl)]; rfl
  | z :: ks, [], h1, h2, _ => by
    have h0 := h2 0 (Nat.zero_le _) (by simp)
    have ih := flat_leaves ks [] (fun i x h => by cases h) (fun i _ hi => h2 (i + 1) (Nat.zero_le _) (by simpa using hi)) (Nat.zero_le _) (g := g)
    rw [List.flatMap_cons, ih]
    exact (congrArg (· ++ _) h0).trans rfl
  | z :: ks, x :: m, h1, h2, hl => by
    have h0 := h1 0 x rfl
    have ih := flat_leaves ks m (fun i y hy => h1 (i + 1) y hy) (fun i h3 h4 => h2 (i + 1) (by simpa using h3) (by simpa using h4)) (by simpa using hl)
    rw [List.flatMap_cons, ih]
    exact (congrArg (· ++ _) h0).trans rfl
theorem rd_clash {A : Ar} {f : Nat} {r : Int} {y : Node} {m : List It} (hy : getA A r = some y) (h4 : y.kind = 4) (hm9 : m.length ≤ 9) (hlf : ∀ i x, m[i]? = some x → lfA A (y.kids.getD i 0) x) (hz : ∀ i, m.length ≤ i → i < 9 → y.kids.getD i 0 = 0) : rdF A (f + 2) r = m := by
  rw [rdF_node hy (by omega), flat_leaves (g := id) y.kids m (fun i x hx => rdF_leaf (hlf i x hx)) (fun i h1 h2 => by rw [hz i h1 h2]; exact rdF_no (getA_z A)) hm9, List.map_id]
theorem rd_perm {A : Ar} : ∀ {k f : Nat} {r : Int} {L : List It}, IsH A k r L → (rdF A (k + f + 2) r).Perm L
  | k, f, r, L, h => by
    rcases row_cases L with rfl | ⟨x, rfl⟩ | h2
    · rw [isH_nil.1 h, rdF_no (getA_z A)]
    · rw [rdF_leaf (isH_one.1 h)]
    · cases k with
      | zero =>
        obtain ⟨y, m, q1, q2, _, q3, _, _, q6, q7, q8⟩ := clash_node ((isH_clash h2).1 h) h2
        rw [rd_clash q1 q2 q6 q7 q8]; exact q3
      | succ k =>
        obtain ⟨y, q1, q2, _, q4, q5⟩ := trie_zero h h2
        rw [show k + 1 + f + 2 = (k + f + 2) + 1 by omega, rdF_node q1 (by omega), kids4 q5 _ (rdF_no (getA_z A))]
        exact ((rd_perm (f := f) (q4 0 (by omega))).append ((rd_perm (f := f) (q4 1 (by omega))).append ((rd_perm (f := f) (q4 2 (by omega))).append (rd_perm (f := f) (q4 3 (by omega)))))).trans (part_perm (9 - k) L)
section
variable {σ α : Type} {nx : σ → α → σ × Bool} {s : σ}
theorem pushF_one (z : α) : pushF nx s [z] = nx s z := by
  simp only [pushF]
  split
  · rename_i h; exact Prod.ext rfl h.symm
  · rename_i h; exact Prod.ext rfl (by simpa using h)
theorem pushF_take {ks : List α} {j : Nat} {z : α} (hz : ks[j]? = some z) (h : (pushF nx s (ks.take j)).2 = true) : pushF nx s (ks.take (j + 1)) = nx (pushF nx s (ks.take j)).1 z := by
  rw [List.take_add_one, hz, pushF_app h]; exact pushF_one z
theorem pushF_stop {ks : List α} {j : Nat} (h : (pushF nx s (ks.take j)).2 = false) : pushF nx s ks = pushF nx s (ks.take j) := by
  conv => lhs; rw [← List.take_append_drop j ks]
  exact pushF_l h
theorem pushF_sum {cnt : σ → Nat} {lenK : α → Nat} (h : ∀ s x, cnt (nx s x).1 ≤ cnt s + lenK x) : ∀ (L : List α) (s : σ), cnt (pushF nx s L).1 ≤ cnt s + (L.map lenK).sum
  | [], s => Nat.le_add_right _ _
  | x :: L, s => by
    have h1 := h s x
    rw [pushF, List.map_cons, List.sum_cons]
    split
    · have := pushF_sum h L (nx s x).1; omega
    · simp only []; omega
theorem sum_take {lenK : α → Nat} {ks : List α} {j : Nat} {z : α} (hz : ks[j]? = some z) : ((ks.take j).map lenK).sum + lenK z ≤ (ks.map lenK).sum := by
  have e : (ks.map lenK).sum = ((ks.take (j + 1)).map lenK).sum + ((ks.drop (j + 1)).map lenK).sum := by
    rw [← List.sum_append, ← List.map_append, List.take_append_drop]
  rw [e, List.take_add_one, hz, List.map_append, List.sum_append]
  simp
end
theorem pushF_flat {σ α β : Type} {step : σ → β → σ × Bool} (f : α → List β) : ∀ (ks : List α) (s : σ), pushF (fun s z => pushF step s (f z)) s ks = pushF step s (ks.flatMap f)
  | [], s => rfl
  | z :: ks, s => by
    rw [List.flatMap_cons, pushF]
    by_cases h : (pushF step s (f z)).2 = true
    · rw [if_pos h, pushF_app h, pushF_flat f ks]
    · rw [if_neg h, pushF_l (by simpa using h)]
      exact Prod.ext rfl (by simpa using h)
def IdxT {σ : Type} (g : FuncId) (cs : List Value) (ks : List Int) (cnt : σ → Nat) (N : Nat) (lenK : Int → Nat) (I : World → Prop) (H : σ → Bool → (Nat → Prop) → World → Prop) (nx : σ → Int → σ × Bool) : Prop :=
  ∀ z ∈ ks, ∀ (s : σ) (C M : Nat → Prop) (W : World), cnt s + lenK z ≤ N → Ft M I W → (∀ k, M k → ¬ C k) → Ft C (H s true C) W → FC Tryz.prog g ([u6 z] ++ cs) W (fun v w' => ∃ C', v = .bool (!(nx s z).2) ∧ Ft C' (H (nx s z).1 (nx s z).2 C') w' ∧ Agr C W w' ∧ Up C W C')
theorem c_idxK {σ : Type} (g : FuncId) (hg : calleeOK Tryz.prog g = true) (cs : List Value) (ks : List Int) (a : Option Addr) (c : Nat) (hk : ks.length ≤ 1000) (cnt : σ → Nat) (N : Nat) (lenK : Int → Nat) (I : World → Prop) (H : σ → Bool → (Nat → Prop) → World → Prop) (nx : σ → Int → σ × Bool) (hc : ∀ s x, cnt (nx s x).1 ≤ cnt s + lenK x) (hT : IdxT g cs ks cnt N lenK I H nx) (hI : ∀ u, I u → Sl u a 1 (ks.map fun x => [u6 x]))
  (s : σ) (C M : Nat → Prop) (w : World) (m : Nat) (hm : m = ks.length) (hN : cnt s + (ks.map lenK).sum ≤ N) (hM : Ft M I w) (hMC : ∀ k, M k → ¬ C k) (hH : Ft C (H s true C) w) :
  FC Tryz.prog 241 [.slice a m c, .func (.func g) #[] cs.toArray] w (fun v w' => ∃ C' n, v = .int .i64 n ∧ (0 ≤ n ↔ (pushF nx s ks).2 = false) ∧ Ft C' (H (pushF nx s ks).1 (pushF nx s ks).2 C') w' ∧ Agr C w w' ∧ Up C w C') := by
 subst hm
 have hlen : ks.length < 9223372036854775807 := by omega
 refine FC.intro Tryz.func241 rfl Tryz.ntmps241 rfl ?_
 have G : Agr C w w := Agr.refl _ _
 refine RC.seq (RC.region rfl ?_);refine RL.asS rfl ?_;refine RL.nil (RC.back (RC.seq (RC.seq (RC.region rfl ?_))));refine RL.mvS rfl ?_;refine RL.eS (.len sl73 rfl) ?_;refine RL.mvS rfl ?_;refine RL.nil (RC.back (RC.block ?_));refine RC.loop (α := Nat × (Nat → Prop)) (fun x => [(0, .slice a ks.length c), (1, .func (.func g) #[] cs.toArray), (7, .int .i64 (ks.length : Int)), (8, .int .i64 (x.1 : Int))]) (fun x w1 => (x.1 ≤ ks.length ∧ (pushF nx s (ks.take x.1)).2 = true) ∧ Ft x.2 (H (pushF nx s (ks.take x.1)).1 true x.2) w1 ∧ Ft M I w1 ∧ (∀ k, M k → ¬ x.2 k) ∧ Agr C w w1 ∧ Up C w x.2) (fun x => ks.length - x.1) (0, C) (keep_of (by repeat (first | exact trivial | refine And.intro rfl ?_))) (⟨⟨Nat.zero_le _, rfl⟩, hH, hM, hMC, G, Up.refl _ _⟩) (fun x w1 hJ => ?_)
 obtain ⟨j, Cj⟩ := x; obtain ⟨⟨hj, ht⟩, hH, hM, hMC, G, up⟩ := hJ; simp only [] at hj ht hH hMC up; have hsl := hI _ hM.now; have hsum := pushF_sum hc (ks.take j) s
 refine RC.seq (RC.region rfl ?_);refine RL.eS (.bin rfl rfl rfl) ?_;refine RL.nil (RC.back (RC.seq ?_));refine RC.cond_dec rfl (fun h2 => ?_) (fun h2 => ?_)
 ·
  obtain ⟨z, hz⟩ := getSome (l := ks) (i := j) (by omega)
  have hst := sum_take (lenK := lenK) hz
  refine RC.skip (RC.back (RC.seq (RC.block (RC.seq (RC.region rfl ?_)))));refine RL.mvS rfl ?_;refine RL.asS rfl ?_;refine RL.nil (RC.back (RC.seq (RC.region rfl ?_)));refine RL.mvS rfl ?_;refine RL.mvS rfl ?_;refine RL.mvS rfl ?_;refine RL.eS (.indexS sl73 rfl rfl (by omega) (hsl.is (i := j) (by simp only [List.length_map]; omega))) ?_;refine RL.eS (.load1 sh31 rfl (hsl.one (enc := u6) (i := j) hz)) ?_;refine RL.callv rfl rfl (us := []) (cs := cs) hg (hT z (List.mem_of_getElem? hz) _ Cj M w1 (by omega) hM hMC hH) rfl rfl ?_;rintro _ w3 ⟨C1, rfl, hH1, ag, up1⟩
  have hMC1 : ∀ k, M k → ¬ C1 k := fun k hk => up1.not (hM.lt k hk) (hMC k hk)
  have hM := hM.step ag hMC
  have up1 := up.trans (up1.le G.size)
  have G := G.up up ag
  rw [← pushF_take hz ht] at hH1
  have hH := hH1
  rw [← pushF_take hz ht]
  refine RL.nil (RC.back ?_);refine RC.cond rfl (fun h5 => ?_) (fun h5 => ?_)
  ·
   have q1 : (pushF nx s (ks.take (j + 1))).2 = false := (by simpa using h5)
   have hpe := pushF_stop q1
   refine RC.seq (RC.region rfl ?_);refine RL.mvS rfl ?_;refine RL.asS rfl ?_;refine RL.nil (RC.back ?_);refine RC.d1 4 rfl rfl rfl ?_
   rw [hpe]
   exact ⟨C1, (j : Int), rfl, ⟨fun _ => q1, fun _ => by omega⟩, hH, G, up1⟩
  ·
   have q1 : (pushF nx s (ks.take (j + 1))).2 = true := (by simpa using h5)
   refine RC.skip (RC.back (RC.region rfl ?_));refine RL.eS (.as (.bin rfl rfl rfl) (wi64 (y := ((j + 1 : Nat) : Int)) (by omega) (by omega))) ?_;refine RL.mvS rfl ?_
   exact RL.nil (fun a ka => ⟨(j + 1, C1), ⟨⟨by simp only []; omega, q1⟩, (by rw [q1] at hH; exact hH), hM, hMC1, G, up1⟩, by omega, ka.keep (keep_of (by repeat (first | exact trivial | refine And.intro rfl ?_)))⟩)
 ·
  obtain rfl : j = ks.length := (by omega)
  rw [List.take_length] at ht hH
  refine RC.exit rfl (RC.back (RC.seq (RC.region rfl ?_)));refine RL.asS rfl ?_;refine RL.nil (RC.back ?_);refine RC.d1 4 rfl rfl rfl ?_
  exact ⟨Cj, -1, rfl, ⟨fun h => by omega, fun h => by rw [ht] at h; cases h⟩, (by rw [ht]; exact hH), G, up⟩
theorem c_containsK {σ : Type} (g : FuncId) (hg : calleeOK Tryz.prog g = true) (cs : List Value) (ks : List Int) (a : Option Addr) (c : Nat) (hk : ks.length ≤ 1000) (cnt : σ → Nat) (N : Nat) (lenK : Int → Nat) (I : World → Prop) (H : σ → Bool → (Nat → Prop) → World → Prop) (nx : σ → Int → σ × Bool) (hc : ∀ s x, cnt (nx s x).1 ≤ cnt s + lenK x) (hT : IdxT g cs ks cnt N lenK I H nx) (hI : ∀ u, I u → Sl u a 1 (ks.map fun x => [u6 x]))
  (s : σ) (C M : Nat → Prop) (w : World) (m : Nat) (hm : m = ks.length) (hN : cnt s + (ks.map lenK).sum ≤ N) (hM : Ft M I w) (hMC : ∀ k, M k → ¬ C k) (hH : Ft C (H s true C) w) :
  FC Tryz.prog 186 [.slice a m c, .func (.func g) #[] cs.toArray] w (fun v w' => ∃ C', v = .bool (!(pushF nx s ks).2) ∧ Ft C' (H (pushF nx s ks).1 (pushF nx s ks).2 C') w' ∧ Agr C w w' ∧ Up C w C') := by
 refine FC.intro Tryz.func186 rfl Tryz.ntmps186 rfl ?_
 refine RC.seq (RC.region rfl ?_);refine RL.asS rfl ?_;refine RL.nil (RC.back (RC.seq (RC.region rfl ?_)));refine RL.mvS rfl ?_;refine RL.mvS rfl ?_;refine RL.call rfl ok241 (c_idxK g hg cs ks a c hk cnt N lenK I H nx hc hT hI s C M w m hm hN hM hMC hH) rfl rfl ?_;rintro _ w1 ⟨C1, n, rfl, hn, hH1, ag, up⟩;refine RL.eS (.as (v' := .bool (!(pushF nx s ks).2)) (.bin rfl rfl rfl) (by exact congrArg Value.bool (by rw [Bool.eq_iff_iff, decide_eq_true_iff, hn, Bool.not_eq_true']))) ?_;refine RL.asS rfl ?_;refine RL.nil (RC.back ?_);refine RC.d1 4 rfl rfl rfl ?_
 exact ⟨C1, rfl, hH1, ag, up⟩
def PuI (na fa : Option Addr) (nc fc : Nat) (A : Ar) (l b3 b5 b7 : Nat) (y : Node) (u : World) : Prop :=
  ArR u na fa A ∧ Has u b3 [.slice na A.nodes.length nc, .slice fa A.free.length fc] 26 ∧ Has u b5 [.func (.yield l) #[] #[]] 198 ∧ Has u b7 y.cells 140
def PuT {σ : Type} (l : Nat) (H : σ → Bool → (Nat → Prop) → World → Prop) (step : σ → It → σ × Bool) (cnt : σ → Nat) (N : Nat) (A : Ar) (na fa : Option Addr) (nc fc : Nat) (r : Int) (L : List It) : Prop :=
  ∀ (s : σ) (C M : Nat → Prop) (w : World), cnt s + L.length ≤ N → Ft M (fun u => ArR u na fa A) w → (∀ k, M k → ¬ C k) → Ft C (H s true C) w →
    FC Tryz.prog 113 [arV na fa nc fc A, .int .u64 r, .func (.yield l) #[] #[]] w (fun v w' => ∃ C', v = .bool (pushF step s L).2 ∧ Ft C' (H (pushF step s L).1 (pushF step s L).2 C') w' ∧ Agr C w w' ∧ Up C w C')
theorem c_push1W {σ : Type} (l : Nat) (H : σ → Bool → (Nat → Prop) → World → Prop) (step : σ → It → σ × Bool) (cnt : σ → Nat) (N : Nat) (hc : ∀ s x, cnt (step s x).1 ≤ cnt s + 1) (hT : YT Tryz.prog l It.val It.ok cnt N H step) (A : Ar) (na fa : Option Addr) (nc fc : Nat) (b3 b5 b7 : Nat) (y : Node) (z : Int) (L : List It) (hp : PuT l H step cnt N A na fa nc fc z L) (s : σ) (C M : Nat → Prop) (w : World) (hN : cnt s + L.length ≤ N) (hM : Ft M (PuI na fa nc fc A l b3 b5 b7 y) w) (hMC : ∀ k, M k → ¬ C k) (hH : Ft C (H s true C) w) :
  FC Tryz.prog 187 ([u6 z] ++ [.pointer (some ⟨b3, 0, none⟩), .pointer (some ⟨b5, 0, none⟩)]) w (fun v w' => ∃ C', v = .bool (!(pushF step s L).2) ∧ Ft C' (H (pushF step s L).1 (pushF step s L).2 C') w' ∧ Agr C w w' ∧ Up C w C') := by
 obtain ⟨hA, h3, h5, h7⟩ := hM.now
 refine FC.intro Tryz.func187 rfl Tryz.ntmps187 rfl ?_
 refine RC.seq (RC.region rfl ?_);refine RL.asS rfl ?_;refine RL.nil (RC.back (RC.seq (RC.region rfl ?_)));refine RL.eS (.loadR ([.slice na A.nodes.length nc, .slice fa A.free.length fc]) sh26 rfl h3.row rfl) ?_;refine RL.mvS rfl ?_;refine RL.eS (.load1 sh198 rfl (h5.cell rfl)) ?_;refine RL.call rfl ok113 (hp s C M w hN (hM.imp fun u h => h.1) hMC hH) rfl rfl ?_;rintro _ w1 ⟨C1, rfl, hH1, ag, up⟩;refine RL.eS (.not rfl) ?_;refine RL.asS rfl ?_;refine RL.nil (RC.back ?_);refine RC.d1 4 rfl rfl rfl ?_
 exact ⟨C1, rfl, hH1, ag, up⟩
theorem c_pushNil {σ : Type} (l : Nat) (H : σ → Bool → (Nat → Prop) → World → Prop) (step : σ → It → σ × Bool) (cnt : σ → Nat) (N : Nat) (hc : ∀ s x, cnt (step s x).1 ≤ cnt s + 1) (hT : YT Tryz.prog l It.val It.ok cnt N H step) (A : Ar) (na fa : Option Addr) (nc fc : Nat) (s0 : Unit) : PuT l H step cnt N A na fa nc fc 0 [] := by
 intro s C M w hN hA hMC hH
 refine FC.introY Tryz.func113 rfl Tryz.ntmps113 rfl ?_
 have G : Agr C w w := Agr.refl _ _
 refine RC.seq (RC.region rfl ?_);refine RL.box rfl rfl rfl (fun b_3 w_3 e_3 z_3 hb_3 s_3 => ?_);have G := G.trans s_3.agr;have hH := hH.sub s_3
 have hb_3 : Has w_3 b_3 ([.slice na A.nodes.length nc, .slice fa A.free.length fc]) _ := hb_3
 refine RL.box rfl rfl rfl (fun b_5 w_5 e_5 z_5 hb_5 s_5 => ?_);have G := G.trans s_5.agr;have hH := hH.sub s_5;refine RL.asS rfl ?_;refine RL.nil (RC.back (RC.seq (RC.seq (RC.region rfl ?_))));refine RL.mvS rfl ?_;refine RL.eS (.bin rfl rfl rfl) ?_;refine RL.nil (RC.back ?_);refine RC.cond_dec rfl (fun h1 => ?_) (fun h1 => ?_)
 ·
  refine RC.seq (RC.region rfl ?_);refine RL.asS rfl ?_;refine RL.nil (RC.back ?_);refine RC.d1 6 rfl rfl rfl ?_
  exact ⟨C, rfl, hH, G, Up.refl _ _⟩
 ·
  exact absurd rfl h1
theorem c_pushLeaf {σ : Type} (l : Nat) (H : σ → Bool → (Nat → Prop) → World → Prop) (step : σ → It → σ × Bool) (cnt : σ → Nat) (N : Nat) (hc : ∀ s x, cnt (step s x).1 ≤ cnt s + 1) (hT : YT Tryz.prog l It.val It.ok cnt N H step) (A : Ar) (na fa : Option Addr) (nc fc : Nat) (r : Int) (hr : U64 r) (x : It) (hx : lfA A r x) : PuT l H step cnt N A na fa nc fc r [x] := by
 intro s C M w hNn hA hMC hH
 obtain ⟨g, hg⟩ := hx
 have hyo := hA.now.nok _ (getA_nok hg)
 have hr0 := getA_nz hg
 have hCw : ∀ k, C k → k < w.heap.size := hH.lt
 rw [List.length_singleton] at hNn
 refine FC.introY Tryz.func113 rfl Tryz.ntmps113 rfl ?_
 have G : Agr C w w := Agr.refl _ _
 refine RC.seq (RC.region rfl ?_);refine RL.box rfl rfl rfl (fun b_3 w_3 e_3 z_3 hb_3 s_3 => ?_);have G := G.trans s_3.agr;have hA := hA.sub s_3;have hH := hH.sub s_3
 have hb_3 : Has w_3 b_3 ([.slice na A.nodes.length nc, .slice fa A.free.length fc]) _ := hb_3
 refine RL.box rfl rfl rfl (fun b_5 w_5 e_5 z_5 hb_5 s_5 => ?_);have G := G.trans s_5.agr;have hA := hA.sub s_5;have hH := hH.sub s_5;have hb_3 := hb_3.sub s_5;refine RL.asS rfl ?_;refine RL.nil (RC.back (RC.seq (RC.seq (RC.region rfl ?_))));refine RL.mvS rfl ?_;refine RL.eS (.bin rfl rfl rfl) ?_;refine RL.nil (RC.back ?_);refine RC.cond_dec rfl (fun h1 => ?_) (fun h1 => ?_)
 ·
  exact absurd h1 hr0
 ·
  refine RC.skip (RC.back (RC.seq (RC.region rfl ?_)));refine RL.eS (.loadR ([.slice na A.nodes.length nc, .slice fa A.free.length fc]) sh26 rfl hb_3.row rfl) ?_;refine RL.mvS rfl ?_;refine RL.call rfl ok125 (c_aGet A na fa nc fc r hr w_5 hA.now) rfl rfl ?_;rintro _ w2 ⟨rfl, s3⟩;have G := G.trans s3.agr;have hH := hH.sub s3;have hb_5 := hb_5.sub s3;refine RL.eS (.as (v' := .tuple #[(hN 3 g x.k x.v 0 []).val, .int .i64 0]) (.move rfl) (by rw [getV_yes hg])) ?_;refine RL.eS (.extract rfl rfl) ?_;refine RL.eS (.extract rfl rfl) ?_;refine RL.alloc ze140 rfl rfl (fun b_7 w_7 e_7 z_7 hb_7 s_7 => ?_);have n_5__7 := hb_5.ne e_7;have d_hH_b_7 := hH.neNew e_7
  have geG_7 := agLe G e_7
  have G := G.trans s_7.agr;have hH := hH.sub s_7;have hb_5 := hb_5.sub s_7;refine RL.stS sh140 rfl rfl rfl hb_7 (fun w4 z4 hb_7 a4 => ?_)
  have G := agNew G a4 geG_7
  have hH := hH.updD a4 d_hH_b_7;have hb_5 := hb_5.upd a4 n_5__7
  have hb_7 : Has w4 b_7 ((hN 3 g x.k x.v 0 []).cells) _ := hb_7.now (by kernel_rfl)
  refine RL.asS rfl ?_;refine RL.nil (RC.back (RC.seq (RC.seq (RC.region rfl ?_))));refine RL.eS (.field0 fo140_0 rfl) ?_;refine RL.eS (.load1 sh3 rfl (hb_7.cell rfl)) ?_;refine RL.eS (.as (v' := .bool true) (.bin rfl rfl rfl) (congrArg Value.bool (decide_eq_true (rfl)))) ?_;refine RL.nil (RC.back ?_);refine RC.cond_t rfl ?_;refine RC.seq (RC.region rfl ?_);refine RL.eS (.load1 sh198 rfl (hb_5.cell rfl)) ?_;refine RL.eS (.field0 fo140_2 rfl) ?_;refine RL.eS (.load1 sh2 rfl (hb_7.cell rfl)) ?_;refine RL.eS (.field0 fo140_3 rfl) ?_;refine RL.eS (.load1 sh2 rfl (hb_7.cell rfl)) ?_;refine RL.eS (.as (v' := x.val) (.buildS ze51 pl51 rfl rfl) (by rfl)) ?_;refine RL.yield rfl rfl (hT s x C w4 ⟨hyo.n, hyo.v⟩ (by omega) hH) rfl rfl ?_;rintro _ w5 ⟨C2, rfl, hH2, ag2, up2⟩
  have up2 := up2.le G.size
  have G := G.trans ag2;refine RL.asS rfl ?_;refine RL.nil (RC.back ?_);refine RC.d1 6 rfl rfl rfl ?_
  rw [pushF_one]
  exact ⟨C2, rfl, hH2, G, up2⟩
theorem c_pushNode {σ : Type} (l : Nat) (H : σ → Bool → (Nat → Prop) → World → Prop) (step : σ → It → σ × Bool) (cnt : σ → Nat) (N : Nat) (hc : ∀ s x, cnt (step s x).1 ≤ cnt s + 1) (hT : YT Tryz.prog l It.val It.ok cnt N H step) (A : Ar) (na fa : Option Addr) (nc fc : Nat) (r : Int) (hr : U64 r) (y : Node) (hy : getA A r = some y) (h3 : ¬ y.kind = 3) (f : Int → List It) (hf : ∀ z ∈ y.kids, PuT l H step cnt N A na fa nc fc z (f z)) : PuT l H step cnt N A na fa nc fc r (y.kids.flatMap f) := by
 intro s C M w hN hA hMC hH
 have hyo := hA.now.nok _ (getA_nok hy)
 have hr0 := getA_nz hy
 have hCw : ∀ k, C k → k < w.heap.size := hH.lt
 have hfl : (y.kids.flatMap f).length = (y.kids.map fun z => (f z).length).sum := by rw [List.length_flatMap]
 refine FC.introY Tryz.func113 rfl Tryz.ntmps113 rfl ?_
 have G : Agr C w w := Agr.refl _ _
 refine RC.seq (RC.region rfl ?_);refine RL.box rfl rfl rfl (fun b_3 w_3 e_3 z_3 hb_3 s_3 => ?_);have G := G.trans s_3.agr;have hA := hA.sub s_3;have hH := hH.sub s_3
 have hb_3 : Has w_3 b_3 ([.slice na A.nodes.length nc, .slice fa A.free.length fc]) _ := hb_3
 refine RL.box rfl rfl rfl (fun b_5 w_5 e_5 z_5 hb_5 s_5 => ?_);have G := G.trans s_5.agr;have hA := hA.sub s_5;have hH := hH.sub s_5;have hb_3 := hb_3.sub s_5;refine RL.asS rfl ?_;refine RL.nil (RC.back (RC.seq (RC.seq (RC.region rfl ?_))));refine RL.mvS rfl ?_;refine RL.eS (.bin rfl rfl rfl) ?_;refine RL.nil (RC.back ?_);refine RC.cond_dec rfl (fun h1 => ?_) (fun h1 => ?_)
 ·
  exact absurd h1 hr0
 ·
  refine RC.skip (RC.back (RC.seq (RC.region rfl ?_)));refine RL.eS (.loadR ([.slice na A.nodes.length nc, .slice fa A.free.length fc]) sh26 rfl hb_3.row rfl) ?_;refine RL.mvS rfl ?_;refine RL.call rfl ok125 (c_aGet A na fa nc fc r hr w_5 hA.now) rfl rfl ?_;rintro _ w2 ⟨rfl, s3⟩;have G := G.trans s3.agr;have hA := hA.sub s3;have hH := hH.sub s3;have hb_3 := hb_3.sub s3;have hb_5 := hb_5.sub s3;refine RL.eS (.as (v' := .tuple #[y.val, .int .i64 0]) (.move rfl) (by rw [getV_yes hy])) ?_;refine RL.eS (.extract rfl rfl) ?_;refine RL.eS (.extract rfl rfl) ?_;refine RL.alloc ze140 rfl rfl (fun b_7 w_7 e_7 z_7 hb_7 s_7 => ?_);have n_3__7 := hb_3.ne e_7;have n_5__7 := hb_5.ne e_7;have d_hA_b_7 := hA.neNew e_7;have d_hH_b_7 := hH.neNew e_7
  have geG_7 := agLe G e_7
  have G := G.trans s_7.agr;have hA := hA.sub s_7;have hH := hH.sub s_7;have hb_3 := hb_3.sub s_7;have hb_5 := hb_5.sub s_7;refine RL.stS sh140 rfl rfl rfl hb_7 (fun w4 z4 hb_7 a4 => ?_)
  have G := agNew G a4 geG_7
  have hA := hA.updD a4 d_hA_b_7;have hH := hH.updD a4 d_hH_b_7;have hb_3 := hb_3.upd a4 n_3__7;have hb_5 := hb_5.upd a4 n_5__7
  have hb_7 : Has w4 b_7 (y.cells) _ := hb_7.now (by kernel_rfl)
  refine RL.asS rfl ?_;refine RL.nil (RC.back (RC.seq (RC.seq (RC.region rfl ?_))));refine RL.eS (.field0 fo140_0 rfl) ?_;refine RL.eS (.load1 sh3 rfl (hb_7.cell rfl)) ?_;refine RL.eS (.as (v' := .bool false) (.bin rfl rfl rfl) (congrArg Value.bool (decide_eq_false (h3)))) ?_;refine RL.nil (RC.back ?_);refine RC.cond_f rfl ?_;refine RC.skip (RC.back (RC.seq (RC.region rfl ?_)));refine RL.eS (.field0 fo140_5 rfl) ?_;refine RL.eS (.sliceArr ar138 rfl) ?_;refine RL.eS (.func (xs := []) (ys := [_, _]) rfl rfl) ?_;refine RL.call rfl ok186 (c_containsK 187 ok187 [.pointer (some ⟨b_3, 0, none⟩), .pointer (some ⟨b_5, 0, none⟩)] y.kids (some ⟨b_7, 5, none⟩) 9 (Nat.le_of_ble_eq_true rfl) cnt N (fun z => (f z).length) (PuI na fa nc fc A l b_3 b_5 b_7 y) H (fun s z => pushF step s (f z)) (fun s z => pushF_cnt hc (f z) s) (fun z hz s C M W q1 q2 q3 q4 => c_push1W l H step cnt N hc hT A na fa nc fc b_3 b_5 b_7 y z (f z) (hf z hz) s C M W q1 q2 q3 q4) (fun u h => Has.slPart (enc := u6) (l := y.kids) (pre := [i6 y.kind, i6 y.gen, i6 y.n, i6 y.v, i6 y.s]) (post := [i6 y.pre, i6 y.suf]) h.2.2.2 rfl) s C (fun k => M k ∨ k = b_3 ∨ k = b_5 ∨ k = b_7) w4 9 rfl (by omega) (hA.and (hb_3.ft.and (hb_5.ft.and hb_7.ft))) (fun k hk hC => by rcases hk with hk | hk | hk | hk; exact hMC k hk hC; all_goals (have := hCw k hC; omega)) hH) rfl rfl ?_;rintro _ w5 ⟨C2, rfl, hH2, ag2, up2⟩
  have up2 := up2.le G.size
  have G := G.trans ag2
  rw [pushF_flat f] at hH2
  rw [pushF_flat f]
  refine RL.eS (.not rfl) ?_;refine RL.asS rfl ?_;refine RL.nil (RC.back ?_);refine RC.d1 6 rfl rfl rfl ?_
  exact ⟨C2, by rw [Bool.not_not]; rfl, hH2, G, up2⟩
def rowH (A : Ar) (r : Int) : List It := rdF A 12 r
theorem rowH_perm {A : Ar} {r : Int} {L : List It} (h : IsH A 10 r L) : (rowH A r).Perm L := rd_perm (k := 10) (f := 0) h
theorem c_pushAll {σ : Type} (l : Nat) (H : σ → Bool → (Nat → Prop) → World → Prop) (step : σ → It → σ × Bool) (cnt : σ → Nat) (N : Nat) (hc : ∀ s x, cnt (step s x).1 ≤ cnt s + 1) (hT : YT Tryz.prog l It.val It.ok cnt N H step) (A : Ar) (na fa : Option Addr) (nc fc : Nat) (hn : ∀ x ∈ A.nodes, x.ok) : ∀ (k : Nat) (r : Int) (L : List It), IsH A k r L → U64 r → PuT l H step cnt N A na fa nc fc r (rdF A (k + 2) r)
  | k, r, L, h, hr => by
    have zero : ∀ F, PuT l H step cnt N A na fa nc fc 0 (rdF A F 0) := fun F => by
      rw [rdF_no (getA_z A)]; exact c_pushNil l H step cnt N hc hT A na fa nc fc ()
    rcases row_cases L with rfl | ⟨x, rfl⟩ | h2
    · rw [isH_nil.1 h]; exact zero _
    · rw [rdF_leaf (isH_one.1 h)]; exact c_pushLeaf l H step cnt N hc hT A na fa nc fc r hr x (isH_one.1 h)
    · cases k with
      | zero =>
        obtain ⟨y, m, q1, q2, _, _, _, _, q6, q7, q8⟩ := clash_node ((isH_clash h2).1 h) h2
        have hyo := hn _ (getA_nok q1)
        rw [rdF_node q1 (by omega)]
        refine c_pushNode l H step cnt N hc hT A na fa nc fc r hr y q1 (by omega) _ fun z hz => ?_
        obtain ⟨j, hj⟩ := List.getElem?_of_mem hz
        have hj9 : j < 9 := lt_of_get hj
        by_cases hjm : j < m.length
        · obtain ⟨x, hx⟩ := getSome (l := m) hjm
          have h6 := q7 j x hx
          rw [kid_get hj] at h6
          rw [rdF_leaf h6]
          exact c_pushLeaf l H step cnt N hc hT A na fa nc fc z (hyo.kids z hz) x h6
        · have h6 := q8 j (by omega) hj9
          rw [kid_get hj] at h6
          rw [h6]; exact zero _
      | succ k =>
        obtain ⟨y, q1, q2, _, q4, q5⟩ := trie_zero h h2
        have hyo := hn _ (getA_nok q1)
        rw [show k + 1 + 2 = (k + 2) + 1 by omega, rdF_node q1 (by omega)]
        refine c_pushNode l H step cnt N hc hT A na fa nc fc r hr y q1 (by omega) _ fun z hz => ?_
        obtain ⟨j, hj⟩ := List.getElem?_of_mem hz
        have hj9 : j < 9 := lt_of_get hj
        by_cases hj4 : j < 4
        · have h6 := q4 j hj4
          rw [kid_get hj] at h6
          exact c_pushAll l H step cnt N hc hT A na fa nc fc hn k z _ h6 (hyo.kids z hz)
        · have h6 := q5 j (by omega) hj9
          rw [kid_get hj] at h6
          rw [h6]; exact zero _
theorem c_wleaves1 {σ : Type} (l : Nat) (H : σ → Bool → (Nat → Prop) → World → Prop) (step : σ → It → σ × Bool) (cnt : σ → Nat) (N : Nat) (hc : ∀ s x, cnt (step s x).1 ≤ cnt s + 1) (hT : YT Tryz.prog l It.val It.ok cnt N H step) (A : Ar) (na fa : Option Addr) (nc fc : Nat) (r : Int) (hr : U64 r) (L : List It) (hL : IsH A 10 r L) (s : σ) (C M : Nat → Prop) (b2 b3 : Nat) (w : World) (hN : cnt s + L.length ≤ N) (hA : Ft M (fun u => ArR u na fa A) w) (hMC : ∀ k, M k → ¬ C k) (hH : Ft C (H s true C) w)
  (h2 : Has w b2 [.slice na A.nodes.length nc, .slice fa A.free.length fc] 26) (h3 : Has w b3 [.int .u64 r] 31) :
  FC Tryz.prog 112 [.func (.yield l) #[] #[], .pointer (some ⟨b2, 0, none⟩), .pointer (some ⟨b3, 0, none⟩)] w (fun _ w' => ∃ C', Ft C' (H (pushF step s (rowH A r)).1 (pushF step s (rowH A r)).2 C') w' ∧ Agr C w w' ∧ Up C w C') := by
 have hlen := (rowH_perm hL).length_eq
 refine FC.intro Tryz.func112 rfl Tryz.ntmps112 rfl ?_
 refine RC.region rfl ?_;refine RL.eS (.loadR ([.slice na A.nodes.length nc, .slice fa A.free.length fc]) sh26 rfl h2.row rfl) ?_;refine RL.eS (.load1 sh31 rfl (h3.cell rfl)) ?_;refine RL.mvS rfl ?_;refine RL.call rfl ok113 (c_pushAll l H step cnt N hc hT A na fa nc fc hA.now.nok 10 r L hL hr s C M w (by show cnt s + (rowH A r).length ≤ N; omega) hA hMC hH) rfl rfl ?_;rintro _ w1 ⟨C1, rfl, hH1, ag, up⟩;refine RL.nil ?_
 refine fun a ka => ⟨ka.defers, _, run_results (rs := []) (vs := []) ka rfl trivial, ?_⟩
 exact ⟨C1, hH1, ag, up⟩
theorem c_wleaves (A : Ar) (na fa : Option Addr) (nc fc : Nat) (r : Int) (w : World) :
  FC Tryz.prog 53 [arV na fa nc fc A, .int .u64 r] w (fun v w' => ∃ b2 b3, v = .func (.func 112) #[] #[.pointer (some ⟨b2, 0, none⟩), .pointer (some ⟨b3, 0, none⟩)] ∧ Has w' b2 [.slice na A.nodes.length nc, .slice fa A.free.length fc] 26 ∧ Has w' b3 [.int .u64 r] 31 ∧ Sub w w') := by
 refine FC.intro Tryz.func53 rfl Tryz.ntmps53 rfl ?_
 have S := Sub.refl w
 refine RC.seq (RC.region rfl ?_);refine RL.box rfl rfl rfl (fun b_2 w_2 e_2 z_2 hb_2 s_2 => ?_);have S := S.trans s_2
 have hb_2 : Has w_2 b_2 ([.slice na A.nodes.length nc, .slice fa A.free.length fc]) _ := hb_2
 refine RL.box rfl rfl rfl (fun b_3 w_3 e_3 z_3 hb_3 s_3 => ?_);have S := S.trans s_3;have hb_2 := hb_2.sub s_3;refine RL.asS rfl ?_;refine RL.nil (RC.back (RC.seq (RC.region rfl ?_)));refine RL.eS (.func (xs := []) (ys := [_, _]) rfl rfl) ?_;refine RL.asS rfl ?_;refine RL.nil (RC.back ?_);refine RC.d1 4 rfl rfl rfl ?_
 exact ⟨b_2, b_3, rfl, hb_2, hb_3, S⟩
def stCol (s : List It) (x : It) : List It × Bool := (s ++ [x], true)
theorem push_col : ∀ (l s : List It), pushF stCol s l = (s ++ l, true)
  | [], s => by rw [List.append_nil]; rfl
  | x :: l, s => by rw [pushF_t rfl, push_col l]; simp [stCol]
theorem stCol_cnt (s : List It) (x : It) : (stCol s x).1.length ≤ s.length + 1 := by simp [stCol]
def HCol (l : Nat) (rL : Loop) (b2 base : Nat) (rows : List It) (b : Bool) (C : Nat → Prop) (W : World) : Prop :=
  ∃ v, (Lp l (recB rL 0 b) W ∧ Has W b2 [v] 42 ∧ Ows base W 51 2 v (rows.map It.cells)) ∧ (∀ k, ob v = some k → k ≠ l ∧ k ≠ b2) ∧ ∀ k, C k ↔ (k = l ∨ k = b2 ∨ ob v = some k)
theorem HCol.ft {l : Nat} {rL : Loop} {b2 base : Nat} {rows : List It} {b : Bool} {C : Nat → Prop} {W : World} {v : Value} (hC : ∀ k, C k ↔ (k = l ∨ k = b2 ∨ ob v = some k))
    (h1 : Lp l (recB rL 0 b) W) (h2 : Has W b2 [v] 42) (h5 : Ows base W 51 2 v (rows.map It.cells)) (hob : ∀ k, ob v = some k → k ≠ l ∧ k ≠ b2) :
    Ft C (HCol l rL b2 base rows b C) W := by
  refine ⟨fun k hk => ?_, fun u a => ⟨v, ⟨h1.step a (fun hn => hn ((hC _).2 (.inl rfl))), h2.step a (fun hn => hn ((hC _).2 (.inr (.inl rfl)))), h5.step a (fun k hk hn => hn ((hC k).2 (.inr (.inr hk))))⟩, hob, hC⟩⟩
  rcases (hC k).1 hk with rfl | rfl | h
  · exact h1.lt
  · exact h2.lt
  · exact (h5.ge k h).2
theorem c_appendSeq (A : Ar) (na fa : Option Addr) (nc fc : Nat) (r : Int) (hr : U64 r) (L : List It) (hTT : IsH A 10 r L) (hl : L.length ≤ 200) (bA bR : Nat) (w : World) (hA : ArR w na fa A) (hbA : Has w bA [.slice na A.nodes.length nc, .slice fa A.free.length fc] 26) (hbR : Has w bR [.int .u64 r] 31) :
    FC Tryz.prog 111 [.slice none 0 0, .func (.func 112) #[] #[.pointer (some ⟨bA, 0, none⟩), .pointer (some ⟨bR, 0, none⟩)]] w (fun v w' => Sub w w' ∧ ∃ a c, v = .slice a ((rowH A r).map It.cells).length c ∧ Ows w.heap.size w' 51 2 (.slice a ((rowH A r).map It.cells).length c) ((rowH A r).map It.cells)) := by
  refine FC.introM Tryz.func111 rfl Tryz.ntmps111 rfl ?_
  have S := Sub.refl w
  refine RC.seq (RC.region rfl ?_);refine RL.box rfl rfl rfl (fun b_2 w_2 e_2 z_2 hb_2 s_2 => ?_);have S := S.trans s_2;refine RL.asS rfl ?_;refine RL.nil (RC.back (RC.seq (RC.seq (RC.region rfl ?_))));refine RL.mvS rfl ?_;refine RL.nil (RC.back ?_);refine RC.range (cs := [_, _]) rfl ok112 ?_
  intro rL W1 hst hpe hps hasg hbd hk1 s1 z1 hL hD
  obtain ⟨b_D, eD⟩ : ∃ D, D = w_2.heap.size := ⟨_, rfl⟩
  rw [← eD] at hk1 z1 hL hD ⊢
  obtain ⟨b_l, el⟩ : ∃ l, l = b_D + 1 := ⟨_, rfl⟩
  rw [← el] at hk1 hL ⊢
  have n_D_l : b_D ≠ b_l := by omega
  have ge_D : _ ≤ b_D := Nat.le_trans S.size (by omega)
  have ge_l : _ ≤ b_l := Nat.le_trans S.size (by omega)
  have nb_2_b_D : b_2 ≠ b_D := fun e => by have := hb_2.lt; omega
  have nb_2_b_l : b_2 ≠ b_l := fun e => by have := hb_2.lt; omega
  have S := S.trans s1;have hb_2 := hb_2.sub s1
  rw [recB_0 (id := 0) hst hpe] at hL
  have hY : YT Tryz.prog b_l It.val It.ok List.length 200 (HCol b_l rL b_2 w.heap.size) (stCol) := by
    intro s x C W hx hcn hH
    obtain ⟨v, ⟨hL, hb_2, o⟩, hob, hC⟩ := hH.now
    have szB : w.heap.size ≤ W.heap.size := (by have := hL.lt; omega)
    have G : Agr (fun k => k = b_l ∨ k = b_2 ∨ ob v = some k) W W := Agr.refl _ _
    refine FY.intro (m := 13) (F := upd _ (some 7) x.val) [0] hL rfl (by show 1 = rL.params.size; rw [hps]; rfl) (knows1 hps hk1 rfl) ?_
    show RC _ _ rL.assign _ _ _
    rw [hasg]
    refine RC.region rfl ?_;refine RL.alloc ze51 rfl rfl (fun b_5 w_5 e_5 z_5 hb_5 s_5 => ?_);have n_l__5 := hL.ne e_5;have n_2__5 := hb_2.ne e_5;have d_o_b_5 := o.neNew e_5;have hL := hL.sub s_5;have hb_2 := hb_2.sub s_5;have o := o.sub s_5
    have geG_5 := agLe G e_5
    have G := G.trans s_5.agr;have szB := Nat.le_trans szB s_5.size;refine RL.stS sh51 rfl rfl rfl hb_5 (fun w1 z1 hb_5 a1 => ?_);have hL := hL.upd a1 n_l__5;have hb_2 := hb_2.upd a1 n_2__5;have o := o.updD a1 d_o_b_5
    have G := agNew G a1 geG_5
    have szB := Nat.le_trans szB a1.size
    have hb_5 : Has w1 b_5 (x.cells) _ := hb_5.now (by kernel_rfl)
    refine RL.nil (RC.begin hL ?_)
    intro w2 a2 z2 hL
    have hb_2 := hb_2.step a2 (fun e => nb_2_b_l e);have o := o.step a2 (fun k hk e => (fun k hk => (hob k hk).1) k hk e);have G := G.trans (a2.mono fun k _ e => .inl e);have szB := Nat.le_trans szB a2.size;have hb_5 := hb_5.step a2 (fun e => n_l__5.symm e)
    show RC _ _ rL.body _ _ _
    rw [hbd]
    refine RC.block (RC.region rfl ?_);refine RL.eS (.load1 sh42 rfl (hb_2.cell rfl)) ?_;refine RL.eS (.loadR (x.cells) sh51 rfl hb_5.row rfl) ?_;refine RL.buildSlice1 sl42 _ ze51 rfl rfl rfl rfl rfl rfl rfl (fun b_10 w_10 e_10 z_10 hb_10 s_10 => ?_);have hb_2 := hb_2.sub s_10;have o := o.sub s_10;have G := G.trans s_10.agr;have szB := Nat.le_trans szB s_10.size;have hb_5 := hb_5.sub s_10;have hL := hL.sub s_10
    have ltb_2_11 := hb_2.lt
    have szG_11 := G.size
    have ltb_5_11 := hb_5.lt
    have ltb_l_11 := hL.lt
    have ltb_10_11 := hb_10.lt
    refine RL.append2 (base := w.heap.size) (rows := s.map It.cells) (news := [_]) sl42 ze51 rfl rfl rfl rfl (.inl o) (Has.slOne hb_10) rfl (by intro r hr; rw [List.mem_singleton] at hr; subst hr; rfl) rfl (by (try simp only [List.length_map, List.length_nil, List.length_append, List.length_cons]); omega) (by (try simp only [List.length_map, List.length_nil, List.length_append, List.length_cons]); omega) (by omega) rfl rfl (fun v_11 w_11 hc_11 ho_11 ag_11 ob_11 => ?_)
    have o11 := ho_11 (.inl (by simp))
    rw [show _ ++ [_] = ((s ++ [x]).map It.cells) from by rw [List.map_append]; rfl] at o11
    have d_o11_b_2 := obNe ob_11 (fun k hk => (hob k hk).2) hb_2.lt;have d_o11_b_l := obNe ob_11 (fun k hk => (hob k hk).1) hL.lt;have hb_2 := hb_2.step ag_11 (fun e => (fun k hk => (hob k hk).2) _ e.1 rfl);have G := G.trans (ag_11.mono fun k _ e => .inr (.inr e.1));have szB := Nat.le_trans szB ag_11.size;have hL := hL.step ag_11 (fun e => (fun k hk => (hob k hk).1) _ e.1 rfl)
    obtain ⟨a_11, c_11, rfl, k_11⟩ := o11.form
    refine RL.stS sh42 rfl rfl rfl hb_2 (fun w3 z3 hb_2 a3 => ?_);have G := G.trans (a3.mono fun k _ e => .inr (.inl e));have szB := Nat.le_trans szB a3.size;have hL := hL.upd a3 nb_2_b_l.symm;have o11 := o11.updD a3 d_o11_b_2;refine RL.nil (RC.endr (j := none) hL ?_)
    intro w4 a4 z4 hL
    have hb_2 := hb_2.step a4 (fun e => nb_2_b_l e);have G := G.trans (a4.mono fun k _ e => .inl e);have szB := Nat.le_trans szB a4.size;have o11 := o11.step a4 (fun k hk e => d_o11_b_l k hk e)
    -- round end 1
    refine ⟨_, rfl, HCol.ft (fun _ => Iff.rfl) hL hb_2 o11 (fun k hk => ⟨d_o11_b_l k hk, d_o11_b_2 k hk⟩), G.mono fun k _ e => (hC k).2 e, fun k hk => ?_⟩
    rcases hk with e | e | e
    · exact .inl ((hC k).2 (.inl e))
    · exact .inl ((hC k).2 (.inr (.inl e)))
    · rcases ob_11 with h | ⟨c, h, h3⟩
      · exact .inl ((hC k).2 (.inr (.inr (h ▸ e))))
      · rw [h] at e; cases e; exact .inr (Nat.le_trans szG_11 h3)
  refine FC.mono (c_wleaves1 b_l _ _ _ _ stCol_cnt hY A na fa nc fc r hr L hTT [] (fun k => k = b_l ∨ k = b_2 ∨ ob (.slice none 0 0) = some k) (· < w.heap.size) bA bR W1 (by simpa using hl) ((Ft.of_sub fun u s => hA.sub s).sub S) (fun k hk e => by rcases e with e | e | e <;> first | (cases e; done) | omega) (HCol.ft (fun _ => Iff.rfl) hL hb_2 (Ows.nil _ _ _ _) (fun k e => by cases e)) ((hbA.sub S)) ((hbR.sub S))) ?_
  rintro _ W2 ⟨C2, hH, ag, up⟩
  rw [push_col] at hH
  obtain ⟨v, ⟨hL, hb_2, o⟩, hob, hC⟩ := hH.now
  have hDC : ¬ (b_D = b_l ∨ b_D = b_2 ∨ ob (.slice none 0 0) = some b_D) := (fun e => by rcases e with e | e | e <;> first | (cases e; done) | omega)
  have S := S.agrN ag (fun k e => by rcases e with e | e | e <;> first | (cases e; done) | omega)
  have hDn : ¬ C2 b_D := up.not hD.lt hDC
  have hD := hD.step ag hDC
  have hoD : ∀ k, ob v = some k → k ≠ b_D := fun k hk e => hDn (e ▸ (hC k).2 (.inr (.inr hk)))
  obtain ⟨a1, c1, rfl, _⟩ := o.form
  refine ⟨_, hL, recB_nb, fun W3 a3 z3 => .inl ⟨recB_pe, RC.backM ?_⟩⟩
  have S := S.agrN a3 (fun k e => e ▸ ge_l)
  have o := o.step a3 (fun k hk e => (fun k hk => (hob k hk).1) k hk e);have hb_2 := hb_2.step a3 (fun e => nb_2_b_l e);have hD := hD.step a3 (fun e => n_D_l e);refine RC.seq (RC.region rfl ?_);refine RL.eS (.load1 sh42 rfl (hb_2.cell rfl)) ?_;refine RL.asS rfl ?_;refine RL.nil (RC.back ?_);refine RC.doneM (rs := [.tmp 4]) (vs := [_]) rfl rfl (fun _ => ⟨rfl, trivial⟩) hD (fun w5 a5 z5 => ?_)
  have S := S.agrN a5 (fun k e => e ▸ ge_D)
  have o := o.step a5 (fun k hk e => hoD k hk e)
  exact ⟨S, a1, c1, rfl, o⟩
theorem c_collect (A : Ar) (na fa : Option Addr) (nc fc : Nat) (r : Int) (hr : U64 r) (L : List It) (hL : IsH A 10 r L) (hl : L.length ≤ 200) (bA bR : Nat) (w : World) (hA : ArR w na fa A) (hbA : Has w bA [.slice na A.nodes.length nc, .slice fa A.free.length fc] 26) (hbR : Has w bR [.int .u64 r] 31) :
  FC Tryz.prog 52 [.func (.func 112) #[] #[.pointer (some ⟨bA, 0, none⟩), .pointer (some ⟨bR, 0, none⟩)]] w (fun v w' => Sub w w' ∧ ∃ a c, v = .slice a ((rowH A r).map It.cells).length c ∧ Ows w.heap.size w' 51 2 (.slice a ((rowH A r).map It.cells).length c) ((rowH A r).map It.cells)) := by
 refine FC.intro Tryz.func52 rfl Tryz.ntmps52 rfl ?_
 have S := Sub.refl w
 refine RC.seq (RC.region rfl ?_);refine RL.asS rfl ?_;refine RL.nil (RC.back (RC.seq (RC.region rfl ?_)));refine RL.mvS rfl ?_;refine RL.call rfl ok111 (c_appendSeq A na fa nc fc r hr L hL hl bA bR w (hA.sub S) (hbA.sub S) (hbR.sub S)) rfl rfl ?_;rintro _ w1 ⟨s2, a1, c1, rfl, o⟩
 have o := o.low S.size
 have S := S.trans s2;refine RL.asS rfl ?_;refine RL.nil (RC.back ?_);refine RC.d1 2 rfl rfl rfl ?_
 exact ⟨S, a1, c1, rfl, o⟩
theorem c_wAll (A : Ar) (na fa : Option Addr) (nc fc : Nat) (hnc : A.nodes.length ≤ nc) (hfc : A.free.length ≤ fc) (r : Int) (hr : U64 r) (w : World) (hA : ArR w na fa A) :
  FC Tryz.prog 15 [arV na fa nc fc A, .int .u64 r] w (fun v w' => Sub w w' ∧ ∃ a c rows e, v = .tuple #[.slice a rows.length c, .int .i64 e] ∧ Sl w' a 2 (rows.map It.cells) ∧ (¬ isTab A r → rows = [] ∧ e = 1) ∧ (isTab A r → rows = rowH A r ∧ e = 0)) := by
 have hNd := hA.nodes
 have hFr := hA.free
 refine FC.intro Tryz.func15 rfl Tryz.ntmps15 rfl ?_
 have S := Sub.refl w
 refine RC.seq (RC.region rfl ?_);refine RL.box rfl rfl rfl (fun b_2 w_2 e_2 z_2 hb_2 s_2 => ?_);have S := S.trans s_2
 have hb_2 : Has w_2 b_2 ([.slice na A.nodes.length nc, .slice fa A.free.length fc]) _ := hb_2
 refine RL.asS rfl ?_;refine RL.asS rfl ?_;refine RL.nil (RC.back (RC.seq (RC.seq (RC.region rfl ?_))));refine RL.eS (.loadR ([.slice na A.nodes.length nc, .slice fa A.free.length fc]) sh26 rfl hb_2.row rfl) ?_;refine RL.mvS rfl ?_;refine RL.call rfl ok51 (c_hRight A na fa nc fc hnc hfc r hr w_2 (hA.sub S)) rfl rfl ?_;rintro _ w1 ⟨rfl, s2⟩;have S := S.trans s2;have hb_2 := hb_2.sub s2;refine RL.eS (.not rfl) ?_;refine RL.nil (RC.back ?_);refine RC.cond rfl (fun h3 => ?_) (fun h3 => ?_)
 ·
  have hno : ¬ isTab A r := (fun h => by have h2 := h3; rw [isTabB_yes h] at h2; cases h2)
  refine RC.seq (RC.region rfl ?_);refine RL.asS rfl ?_;refine RL.asS rfl ?_;refine RL.nil (RC.back ?_);refine RC.done (rs := [.tmp 4, .tmp 5]) (vs := [_, _]) rfl rfl ⟨rfl, rfl, trivial⟩ ?_
  exact ⟨S, none, 0, [], 1, rfl, Sl.nil _ _ _, fun _ => ⟨rfl, rfl⟩, fun h => absurd h hno⟩
 ·
  have hyes : isTab A r := (isTabB_iff A r).1 (by simpa using h3)
  obtain ⟨_, L, hT, hap, hl⟩ := id hyes
  refine RC.skip (RC.back (RC.seq (RC.region rfl ?_)));refine RL.eS (.loadR ([.slice na A.nodes.length nc, .slice fa A.free.length fc]) sh26 rfl hb_2.row rfl) ?_;refine RL.mvS rfl ?_;refine RL.call rfl ok53 (c_wleaves A na fa nc fc r w1) rfl rfl ?_;rintro _ w4 ⟨bA, bR, rfl, hbA, hbR, s5⟩;have S := S.trans s5;refine RL.call rfl ok52 (c_collect A na fa nc fc r hr L hT hl bA bR w4 (hA.sub S) hbA hbR) rfl rfl ?_;rintro _ w6 ⟨s7, a1, c1, rfl, o⟩;have S := S.trans s7;refine RL.asS rfl ?_;refine RL.asS rfl ?_;refine RL.nil (RC.back ?_);refine RC.done (rs := [.tmp 4, .tmp 5]) (vs := [_, _]) rfl rfl ⟨rfl, rfl, trivial⟩ ?_
  exact ⟨S, a1, c1, rowH A r, 0, by rw [List.length_map]; rfl, o.sl.1, fun h => absurd hyes h, fun _ => ⟨rfl, rfl⟩⟩
def rNode (g v s a b : Int) : Node := ⟨5, g, 0, v, s, a, b, 0, 0, 0, 0, 0, 0, 0, 0, 0⟩
inductive IsR (A : Ar) : Int → List Int → List Int → Prop
  | nil : IsR A 0 [] []
  | node {r g v a b : Int} {L R P Q : List Int} : getA A r = some (rNode g v ((L.length : Int) + R.length + 1) a b) → IsR A a L P → IsR A b R Q → (placeR r :: (P ++ Q)).Nodup → IsR A r (L ++ v :: R) (placeR r :: (P ++ Q))
section
variable {A B : Ar} {r : Int} {V P : List Int}
theorem getA_00 (A : Ar) : getA A 0 = none := by
  cases h : getA A 0 with
  | none => rfl
  | some x =>
    have h2 := (getA_rng h).1
    rw [placeR_not (fun hn : nodeR 0 => by have := (nodeR_iff 0).1 hn; exact this.1 rfl)] at h2
    omega
theorem IsR.zero (h : IsR A 0 V P) : V = [] ∧ P = [] := by
  cases h with
  | nil => exact ⟨rfl, rfl⟩
  | node h1 => rw [getA_00] at h1; cases h1
theorem IsR.unique (h : IsR A r V P) : ∀ {V' P' : List Int}, IsR A r V' P' → V' = V ∧ P' = P := by
  induction h with
  | nil => intro V' P' h; exact h.zero
  | @node r g v a b L R P Q h1 h2 h3 h4 ih1 ih2 =>
    intro V' P' h
    cases h with
    | nil => rw [getA_00] at h1; cases h1
    | node k1 k2 k3 k4 =>
      rw [h1] at k1
      simp only [Option.some.injEq, rNode, Node.mk.injEq] at k1
      obtain ⟨_, _, _, e1, _, e2, e3, _⟩ := k1
      subst e2 e3
      obtain ⟨rfl, rfl⟩ := ih1 k2
      obtain ⟨rfl, rfl⟩ := ih2 k3
      rw [e1]
      exact ⟨rfl, rfl⟩
theorem IsR.len (h : IsR A r V P) : P.length = V.length := by
  induction h with
  | nil => rfl
  | node _ _ _ _ ih1 ih2 => simp only [List.length_cons, List.length_append, ih1, ih2]; omega
theorem IsR.nodup (h : IsR A r V P) : P.Nodup := by
  cases h with
  | nil => exact List.nodup_nil
  | node _ _ _ h => exact h
theorem IsR.rng (h : IsR A r V P) : ∀ p ∈ P, 0 ≤ p ∧ p < A.nodes.length := by
  induction h with
  | nil => intro p hp; cases hp
  | node h1 _ _ _ ih1 ih2 =>
    intro p hp
    rcases List.mem_cons.1 hp with rfl | hp
    · exact getA_rng h1
    · exact (List.mem_append.1 hp).elim (ih1 p) (ih2 p)
end
def rBare (y : Node) : Node := ⟨y.kind, y.gen, 0, y.v, y.s, y.k0, y.k1, 0, 0, 0, 0, 0, 0, 0, 0, 0⟩
theorem rBare_iff {y : Node} (h : y.kind = 5) : rBare y = y ↔ y = rNode y.gen y.v y.s y.k0 y.k1 := by
  unfold rBare rNode; rw [h]; exact eq_comm
def mayR (A : Ar) : Nat → Int → List Bool → Int → Int × List Bool
  | 0, r, seen, _ => (if r = 0 then 0 else -1, seen)
  | k + 1, r, seen, left =>
    if r = 0 then (0, seen) else match getA A r with
    | none => (-1, seen)
    | some y =>
      if left ≤ 0 ∨ ¬ y.kind = 5 ∨ seen.getD (placeR r).toNat false = true then (-1, seen) else
      if (mayR A k y.k0 (seen.set (placeR r).toNat true) (left - 1)).1 < 0 ∨ ¬ rBare y = y then (-1, (mayR A k y.k0 (seen.set (placeR r).toNat true) (left - 1)).2) else
      if (mayR A k y.k1 (mayR A k y.k0 (seen.set (placeR r).toNat true) (left - 1)).2 (left - 1 - (mayR A k y.k0 (seen.set (placeR r).toNat true) (left - 1)).1)).1 < 0 ∨
        ¬ (mayR A k y.k0 (seen.set (placeR r).toNat true) (left - 1)).1 + (mayR A k y.k1 (mayR A k y.k0 (seen.set (placeR r).toNat true) (left - 1)).2 (left - 1 - (mayR A k y.k0 (seen.set (placeR r).toNat true) (left - 1)).1)).1 + 1 = y.s
      then (-1, (mayR A k y.k1 (mayR A k y.k0 (seen.set (placeR r).toNat true) (left - 1)).2 (left - 1 - (mayR A k y.k0 (seen.set (placeR r).toNat true) (left - 1)).1)).2)
      else ((mayR A k y.k0 (seen.set (placeR r).toNat true) (left - 1)).1 + (mayR A k y.k1 (mayR A k y.k0 (seen.set (placeR r).toNat true) (left - 1)).2 (left - 1 - (mayR A k y.k0 (seen.set (placeR r).toNat true) (left - 1)).1)).1 + 1,
        (mayR A k y.k1 (mayR A k y.k0 (seen.set (placeR r).toNat true) (left - 1)).2 (left - 1 - (mayR A k y.k0 (seen.set (placeR r).toNat true) (left - 1)).1)).2)
section
variable {A : Ar} {k : Nat} {r left : Int} {seen : List Bool} {y : Node}
theorem mayR_0 (A : Ar) (k : Nat) (seen : List Bool) (left : Int) : mayR A k 0 seen left = (0, seen) := by cases k <;> simp [mayR]
theorem mayR_no (h0 : ¬ r = 0) (h : getA A r = none) : mayR A (k + 1) r seen left = (-1, seen) := by rw [mayR, if_neg h0, h]
theorem mayR_bad (h0 : ¬ r = 0) (h : getA A r = some y) (hc : left ≤ 0 ∨ ¬ y.kind = 5 ∨ seen.getD (placeR r).toNat false = true) : mayR A (k + 1) r seen left = (-1, seen) := by rw [mayR, if_neg h0, h]; exact if_pos hc
theorem mayR_bad2 {m1 : Int × List Bool} (h0 : ¬ r = 0) (h : getA A r = some y) (hc : ¬ (left ≤ 0 ∨ ¬ y.kind = 5 ∨ seen.getD (placeR r).toNat false = true)) (hm : mayR A k y.k0 (seen.set (placeR r).toNat true) (left - 1) = m1) (h2 : m1.1 < 0 ∨ ¬ rBare y = y) :
    mayR A (k + 1) r seen left = (-1, m1.2) := by
  rw [mayR, if_neg h0, h]; simp only []; rw [if_neg hc, hm, if_pos h2]
theorem mayR_bad3 {m1 m2 : Int × List Bool} (h0 : ¬ r = 0) (h : getA A r = some y) (hc : ¬ (left ≤ 0 ∨ ¬ y.kind = 5 ∨ seen.getD (placeR r).toNat false = true)) (hm : mayR A k y.k0 (seen.set (placeR r).toNat true) (left - 1) = m1) (h2 : ¬ (m1.1 < 0 ∨ ¬ rBare y = y))
    (hm2 : mayR A k y.k1 m1.2 (left - 1 - m1.1) = m2) (h3 : m2.1 < 0 ∨ ¬ m1.1 + m2.1 + 1 = y.s) : mayR A (k + 1) r seen left = (-1, m2.2) := by
  rw [mayR, if_neg h0, h]; simp only []; rw [if_neg hc, hm, if_neg h2, hm2, if_pos h3]
theorem mayR_good {m1 m2 : Int × List Bool} (h0 : ¬ r = 0) (h : getA A r = some y) (hc : ¬ (left ≤ 0 ∨ ¬ y.kind = 5 ∨ seen.getD (placeR r).toNat false = true)) (hm : mayR A k y.k0 (seen.set (placeR r).toNat true) (left - 1) = m1) (h2 : ¬ (m1.1 < 0 ∨ ¬ rBare y = y))
    (hm2 : mayR A k y.k1 m1.2 (left - 1 - m1.1) = m2) (h3 : ¬ (m2.1 < 0 ∨ ¬ m1.1 + m2.1 + 1 = y.s)) : mayR A (k + 1) r seen left = (m1.1 + m2.1 + 1, m2.2) := by
  rw [mayR, if_neg h0, h]; simp only []; rw [if_neg hc, hm, if_neg h2, hm2, if_neg h3]
end
def setAll (seen : List Bool) (P : List Int) : List Bool := P.foldl (fun s p => s.set p.toNat true) seen
theorem setAll_len : ∀ (P : List Int) (seen : List Bool), (setAll seen P).length = seen.length
  | [], _ => rfl
  | p :: P, seen => by rw [setAll, List.foldl_cons]; exact (setAll_len P _).trans (List.length_set)
theorem setAll_app (seen : List Bool) (P Q : List Int) : setAll seen (P ++ Q) = setAll (setAll seen P) Q := List.foldl_append
theorem setD_ne {seen : List Bool} {i j : Nat} (h : i ≠ j) : (seen.set i true).getD j false = seen.getD j false := by
  rw [List.getD_eq_getElem?_getD, List.getD_eq_getElem?_getD, List.getElem?_set_ne h]
theorem setD_eq {seen : List Bool} {i : Nat} (h : i < seen.length) : (seen.set i true).getD i false = true := by
  rw [List.getD_eq_getElem?_getD, List.getElem?_set_self h]; rfl
theorem setAll_other : ∀ (P : List Int) (seen : List Bool) (q : Int), 0 ≤ q → (∀ p ∈ P, 0 ≤ p) → ¬ q ∈ P → (setAll seen P).getD q.toNat false = seen.getD q.toNat false
  | [], _, _, _, _, _ => rfl
  | p :: P, seen, q, hq, hp, hn => by
    rw [setAll, List.foldl_cons]
    have h1 := hp p List.mem_cons_self
    have hne : p.toNat ≠ q.toNat := fun e => hn (by rw [show q = p by omega]; exact List.mem_cons_self)
    rw [← setD_ne (seen := seen) hne]
    exact setAll_other P _ q hq (fun x hx => hp x (List.mem_cons_of_mem _ hx)) (fun h => hn (List.mem_cons_of_mem _ h))
theorem setAll_in : ∀ (P : List Int) (seen : List Bool) (q : Int), (∀ p ∈ P, 0 ≤ p ∧ p < seen.length) → q ∈ P → (setAll seen P).getD q.toNat false = true
  | [], _, _, _, h => by cases h
  | p :: P, seen, q, hp, h => by
    rw [setAll, List.foldl_cons]
    have h1 := hp p List.mem_cons_self
    by_cases hq : q ∈ P
    · exact setAll_in P _ q (fun x hx => by rw [List.length_set]; exact hp x (List.mem_cons_of_mem _ hx)) hq
    · rcases List.mem_cons.1 h with e | h
      · subst e
        exact (setAll_other P _ q h1.1 (fun x hx => (hp x (List.mem_cons_of_mem _ hx)).1) hq).trans (setD_eq (by omega))
      · exact absurd h hq
theorem mayR_yes {A : Ar} {r : Int} {V P : List Int} (h : IsR A r V P) : ∀ (k : Nat) (seen : List Bool) (left : Int), (P.length : Int) ≤ left → left < k → (∀ p ∈ P, seen.getD p.toNat false = false) → mayR A k r seen left = ((P.length : Int), setAll seen P) := by
  induction h with
  | nil => intro k seen left _ _ _; rw [mayR_0]; rfl
  | @node r g v a b L R P Q h1 h2 h3 h4 ih1 ih2 =>
    intro k seen left hl hk hs
    simp only [List.length_cons, List.length_append] at hl
    obtain ⟨k, rfl⟩ : ∃ k', k = k' + 1 := ⟨k - 1, by omega⟩
    have h0 : ¬ r = 0 := fun e => by rw [e, getA_00] at h1; cases h1
    obtain ⟨hn1, hn2⟩ := List.nodup_cons.1 h4
    obtain ⟨hnP, hnQ, hPQ⟩ := List.nodup_append.1 hn2
    have hat := getA_rng h1
    have hP := h2.rng
    have hQ := h3.rng
    have hs1 : ∀ p ∈ P ++ Q, (seen.set (placeR r).toNat true).getD p.toNat false = false := by
      intro p hp
      have hp0 : 0 ≤ p := ((List.mem_append.1 hp).elim (fun h => (hP p h).1) (fun h => (hQ p h).1))
      rw [setD_ne (fun e => hn1 (by rw [show placeR r = p by omega]; exact hp))]
      exact hs p (List.mem_cons_of_mem _ hp)
    have e1 := ih1 k (seen.set (placeR r).toNat true) (left - 1) (by omega) (by omega) (fun p hp => hs1 p (List.mem_append_left _ hp))
    have e2 := ih2 k (setAll (seen.set (placeR r).toNat true) P) (left - 1 - P.length) (by omega) (by omega) (fun q hq => by
      rw [setAll_other P _ q (hQ q hq).1 (fun p hp => (hP p hp).1) (fun hqp => hPQ q hqp q hq rfl)]
      exact hs1 q (List.mem_append_right _ hq))
    have hl1 := h2.len
    have hl2 := h3.len
    rw [mayR_good h0 h1 (fun hc => by
      rcases hc with hc | hc | hc
      · omega
      · exact hc rfl
      · rw [hs _ List.mem_cons_self] at hc; cases hc) e1 (fun hc => hc.elim (fun h => by simp only [] at h; omega) (fun h => h rfl)) e2 (fun hc => by
        simp only [rNode] at hc
        omega)]
    simp only [List.length_cons, List.length_append, Prod.mk.injEq]
    refine ⟨by omega, ?_⟩
    show setAll (setAll (seen.set (placeR r).toNat true) P) Q = setAll seen (placeR r :: (P ++ Q))
    rw [← setAll_app]; rfl
theorem mayR_is {A : Ar} : ∀ (k : Nat) (r : Int) (seen : List Bool) (left : Int), 0 ≤ left → left < k → A.nodes.length ≤ seen.length → 0 ≤ (mayR A k r seen left).1 → ∃ V P, IsR A r V P ∧ (P.length : Int) ≤ left ∧ ∀ p ∈ P, seen.getD p.toNat false = false
  | 0, _, _, _, h1, h2, _, _ => absurd h1 (by omega)
  | k + 1, r, seen, left, h1, h2, hlen, h => by
    by_cases h0 : r = 0
    · subst h0; exact ⟨[], [], .nil, h1, by simp⟩
    · cases hg : getA A r with
      | none => rw [mayR_no h0 hg] at h; exact absurd h (show ¬ (0 : Int) ≤ -1 by decide)
      | some y =>
        by_cases hc : left ≤ 0 ∨ ¬ y.kind = 5 ∨ seen.getD (placeR r).toNat false = true
        · rw [mayR_bad h0 hg hc] at h; exact absurd h (show ¬ (0 : Int) ≤ -1 by decide)
        · obtain ⟨m1, hm1⟩ : ∃ m, mayR A k y.k0 (seen.set (placeR r).toNat true) (left - 1) = m := ⟨_, rfl⟩
          by_cases hc2 : m1.1 < 0 ∨ ¬ rBare y = y
          · rw [mayR_bad2 h0 hg hc hm1 hc2] at h; exact absurd h (show ¬ (0 : Int) ≤ -1 by decide)
          · have hat := getA_rng hg
            have hm0 : 0 ≤ m1.1 := Int.not_lt.1 fun e => hc2 (.inl e)
            have hbare : rBare y = y := Classical.not_not.1 fun e => hc2 (.inr e)
            have hl0 : ¬ left ≤ 0 := fun e => hc (.inl e)
            have hkind : y.kind = 5 := Classical.not_not.1 fun e => hc (.inr (.inl e))
            have hun : seen.getD (placeR r).toNat false = false := by
              cases hq : seen.getD (placeR r).toNat false with
              | false => rfl
              | true => exact absurd (.inr (.inr hq)) hc
            obtain ⟨L, P, hL, hPl, hPs⟩ := mayR_is k y.k0 (seen.set (placeR r).toNat true) (left - 1) (by omega) (by omega) (by rw [List.length_set]; exact hlen) (by rw [hm1]; exact hm0)
            have e1 := mayR_yes hL k (seen.set (placeR r).toNat true) (left - 1) hPl (by omega) hPs
            rw [hm1] at e1
            subst e1
            simp only [] at hm0 hc2
            obtain ⟨m2, hm2⟩ : ∃ m, mayR A k y.k1 (setAll (seen.set (placeR r).toNat true) P) (left - 1 - (P.length : Int)) = m := ⟨_, rfl⟩
            by_cases hc3 : m2.1 < 0 ∨ ¬ (P.length : Int) + m2.1 + 1 = y.s
            · rw [mayR_bad3 h0 hg hc hm1 hc2 hm2 hc3] at h; exact absurd h (show ¬ (0 : Int) ≤ -1 by decide)
            · have hm0' : 0 ≤ m2.1 := Int.not_lt.1 fun e => hc3 (.inl e)
              have hsum : (P.length : Int) + m2.1 + 1 = y.s := Classical.not_not.1 fun e => hc3 (.inr e)
              obtain ⟨R, Q, hR, hQl, hQs⟩ := mayR_is k y.k1 (setAll (seen.set (placeR r).toNat true) P) (left - 1 - (P.length : Int)) (by omega) (by omega) (by rw [setAll_len, List.length_set]; exact hlen) (by rw [hm2]; exact hm0')
              have e2 := mayR_yes hR k _ _ hQl (by omega) hQs
              rw [hm2] at e2
              subst e2
              simp only [] at hsum
              have hP := hL.rng
              have hQ := hR.rng
              have hatP : ¬ placeR r ∈ P := fun hin => by
                have := hPs _ hin
                rw [setD_eq (by omega)] at this; cases this
              have hPQ : ∀ q ∈ Q, ¬ q ∈ P := fun q hq hqp => by
                have := hQs q hq
                rw [setAll_in P _ q (fun p hp => by rw [List.length_set]; have := hP p hp; omega) hqp] at this; cases this
              have hatQ : ¬ placeR r ∈ Q := fun hin => by
                have := hQs _ hin
                rw [setAll_other P _ _ hat.1 (fun p hp => (hP p hp).1) hatP, setD_eq (by omega)] at this; cases this
              have hy := (rBare_iff hkind).1 hbare
              have hl1 := hL.len
              have hl2 := hR.len
              refine ⟨_, _, .node (g := y.gen) (v := y.v) (a := y.k0) (b := y.k1) (by rw [hg, hy, ← hsum]; simp only [rNode, hl1, hl2]) hL hR ?_, ?_, ?_⟩
              · refine List.nodup_cons.2 ⟨fun hin => (List.mem_append.1 hin).elim hatP hatQ, List.nodup_append.2 ⟨hL.nodup, hR.nodup, fun p hp q hq e => hPQ q hq (e ▸ hp)⟩⟩
              · simp only [List.length_cons, List.length_append]; omega
              · intro p hp
                rcases List.mem_cons.1 hp with rfl | hp
                · exact hun
                · rcases List.mem_append.1 hp with hp | hp
                  · have := hPs p hp
                    rwa [setD_ne (fun e => hatP (by rw [show placeR r = p by have := hP p hp; omega]; exact hp))] at this
                  · have := hQs p hp
                    rw [setAll_other P _ p (hQ p hp).1 (fun x hx => (hP x hx).1) (hPQ p hp)] at this
                    rwa [setD_ne (fun e => hatQ (by rw [show placeR r = p by have := hQ p hp; omega]; exact hp))] at this
def isRow (A : Ar) (r : Int) : Prop := AOk A ∧ ∃ V P, IsR A r V P ∧ V.length ≤ 200
theorem isRow_iff {A : Ar} {r : Int} (hA : AOk A) : 0 ≤ (mayR A 201 r (List.replicate A.nodes.length false) 200).1 ↔ isRow A r := by
  constructor
  · intro h
    obtain ⟨V, P, h1, h2, _⟩ := mayR_is 201 r _ 200 (by decide) (by decide) (by rw [List.length_replicate]; exact Nat.le_refl _) h
    exact ⟨hA, V, P, h1, by have := h1.len; omega⟩
  · rintro ⟨_, V, P, h1, h2⟩
    rw [mayR_yes h1 201 _ 200 (by have := h1.len; omega) (by decide) (fun p hp => by rw [List.getD_eq_getElem?_getD, List.getElem?_replicate]; split <;> rfl)]
    exact Int.natCast_nonneg _
noncomputable def isRowB (A : Ar) (r : Int) : Bool := @decide (isRow A r) (Classical.propDecidable _)
theorem isRowB_iff (A : Ar) (r : Int) : isRowB A r = true ↔ isRow A r := by unfold isRowB; exact @decide_eq_true_iff _ (Classical.propDecidable _)
theorem isRowB_yes {A : Ar} {r : Int} (h : isRow A r) : isRowB A r = true := (isRowB_iff A r).2 h
theorem isRowB_no {A : Ar} {r : Int} (h : ¬ isRow A r) : isRowB A r = false := by rw [Bool.eq_false_iff]; exact fun e => h ((isRowB_iff A r).1 e)
theorem eqL_it_iff (x y : It) : eqL x.cells y.cells = decide (x = y) := by
  obtain ⟨a, b⟩ := x
  obtain ⟨c, d⟩ := y
  simp [eqL, eq1, It.cells]
  rfl
theorem take_ext {l m : List It} {i : Nat} {x y : It} (hx : l[i]? = some x) (hy : m[i]? = some y) (h : l.take i = m.take i) (e : x = y) : l.take (i + 1) = m.take (i + 1) := by
  rw [List.take_add_one, List.take_add_one, hx, hy, h, e]
theorem c_same (l m : List It) (a b : Option Addr) (c d n k : Nat) (hn : n = l.length) (hk : k = m.length) (w : World) (hl : Sl w a 2 (l.map It.cells)) (hm : Sl w b 2 (m.map It.cells)) (hb : l.length ≤ 1000000) :
  FC Tryz.prog 17 [.slice a n c, .slice b k d] w (Val (.bool (decide (l = m))) w) := by
 subst hn hk
 refine FC.intro Tryz.func17 rfl Tryz.ntmps17 rfl ?_
 have S := Sub.refl w
 refine RC.seq (RC.region rfl ?_);refine RL.asS rfl ?_;refine RL.nil (RC.back (RC.seq (RC.seq (RC.region rfl ?_))));refine RL.mvS rfl ?_;refine RL.eS (.len sl42 rfl) ?_;refine RL.mvS rfl ?_;refine RL.eS (.len sl42 rfl) ?_;refine RL.eS (.bin rfl rfl rfl) ?_;refine RL.nil (RC.back ?_);refine RC.cond_dec rfl (fun h1 => ?_) (fun h1 => ?_)
 ·
  have hne : ¬ l = m := (fun e => by subst e; exact absurd rfl h1)
  refine RC.seq (RC.region rfl ?_);refine RL.asS rfl ?_;refine RL.nil (RC.back ?_);refine RC.d1 4 rfl rfl rfl ?_
  rw [decide_eq_false hne]
  exact ⟨rfl, S⟩
 ·
  have hlen : l.length = m.length := (by have := h1; omega)
  refine RC.skip (RC.back (RC.seq (RC.seq (RC.region rfl ?_))));refine RL.mvS rfl ?_;refine RL.eS (.len sl42 rfl) ?_;refine RL.mvS rfl ?_;refine RL.nil (RC.back (RC.block ?_));refine RC.loop (α := Nat) (fun i => [(0, .slice a l.length c), (1, .slice b m.length d), (12, .int .i64 (l.length : Int)), (13, .int .i64 (i : Int))]) (fun i w2 => (i ≤ l.length ∧ l.take i = m.take i) ∧ Sub w w2) (fun i => l.length - i) 0 (keep_of (by repeat (first | exact trivial | refine And.intro rfl ?_))) (⟨⟨Nat.zero_le _, by simp⟩, S⟩) (fun i w2 hJ => ?_)
  obtain ⟨⟨hi, hp⟩, S⟩ := hJ
  refine RC.seq (RC.region rfl ?_);refine RL.eS (.bin rfl rfl rfl) ?_;refine RL.nil (RC.back (RC.seq ?_));refine RC.cond_dec rfl (fun h3 => ?_) (fun h3 => ?_)
  ·
   obtain ⟨x, hx⟩ := getSome (l := l) (i := i) (by omega)
   obtain ⟨y, hy⟩ := getSome (l := m) (i := i) (by omega)
   refine RC.skip (RC.back (RC.seq (RC.block (RC.seq (RC.region rfl ?_)))));refine RL.mvS rfl ?_;refine RL.asS rfl ?_;refine RL.nil (RC.back (RC.seq ?_));refine RC.draw rfl mxo (by kernel_rfl) ?_;refine RQ.ev (.move rfl) rfl rfl ?_;refine RQ.ev (.move rfl) rfl rfl ?_;refine RQ.ev (.indexS sl42 rfl rfl (by omega) (hl.is (i := 0) (by simp only [List.length_map, List.length_cons, List.length_nil]; omega))) rfl rfl ?_;refine RQ.ev (.loadR (x.cells) sh51 rfl ((hl.sub S).rowAt (enc := It.cells) (i := i) hx) rfl) rfl rfl ?_;refine RQ.ev (.move rfl) rfl rfl ?_;refine RQ.ev (.move rfl) rfl rfl ?_;refine RQ.ev (.indexS sl42 rfl rfl (by omega) (hm.is (i := 0) (by simp only [List.length_map, List.length_cons, List.length_nil]; omega))) rfl rfl ?_;refine RQ.ev (.loadR (y.cells) sh51 rfl ((hm.sub S).rowAt (enc := It.cells) (i := i) hy) rfl) rfl rfl ?_;refine RQ.ev (.neS (xs := x.cells) (ys := y.cells) fk51 eg51 sh51 rfl rfl rfl rfl rfl) rfl rfl ?_;refine RQ.nil (fun w4 s5 => RC.back ?_);have S := S.trans s5;refine RC.cond rfl (fun h6 => ?_) (fun h6 => ?_)
   ·
    have hxy : ¬ x = y := (fun e => by have h2 := h6; rw [eqL_it_iff, decide_eq_true e] at h2; cases h2)
    have hne : ¬ l = m := (fun e => by subst e; rw [hx] at hy; cases hy; exact hxy rfl)
    refine RC.seq (RC.region rfl ?_);refine RL.asS rfl ?_;refine RL.nil (RC.back ?_);refine RC.d1 4 rfl rfl rfl ?_
    rw [decide_eq_false hne]
    exact ⟨rfl, S⟩
   ·
    have hxy : x = y := (by have h2 := h6; rw [eqL_it_iff] at h2; simpa using h2)
    refine RC.skip (RC.back (RC.region rfl ?_));refine RL.eS (.as (.bin rfl rfl rfl) (wi64 (y := ((i + 1 : Nat) : Int)) (by omega) (by omega))) ?_;refine RL.mvS rfl ?_
    exact RL.nil (fun a ka => ⟨i + 1, ⟨⟨by omega, take_ext hx hy hp hxy⟩, S⟩, by omega, ka.keep (keep_of (by repeat (first | exact trivial | refine And.intro rfl ?_)))⟩)
  ·
   obtain rfl : i = l.length := (by omega)
   rw [List.take_length, hlen, List.take_length] at hp
   refine RC.exit rfl (RC.back (RC.seq (RC.region rfl ?_)));refine RL.asS rfl ?_;refine RL.nil (RC.back ?_);refine RC.d1 4 rfl rfl rfl ?_
   rw [decide_eq_true hp]
   exact ⟨rfl, S⟩
def p0 : Ph := ⟨none, 0, none, 0, none, 0, none, 0⟩
def m0 : Mo := ⟨[], [], [], []⟩
theorem m0_S : MoS p0 m0 := ⟨Nat.le_refl _, Nat.le_refl _, Nat.le_refl _, Nat.le_refl _, Nat.zero_le _, Nat.zero_le _, Nat.zero_le _, Nat.zero_le _⟩
theorem c_MSame (p : Ph) (m : Mo) (hs : MoS p m) (q : Ph) (n : Mo) (ht : MoS q n) (w : World) (hm : MoR w p m) (hn : MoR w q n) :
  FC Tryz.prog 42 [moV p m, moV q n] w (Val (.bool (decide (m.map = n.map ∧ m.tab = n.tab ∧ m.row = n.row ∧ m.heap = n.heap))) w) := by
 have l1 := hs.l1
 have l2 := hs.l2
 have l3 := hs.l3
 have l4 := hs.l4
 refine FC.intro Tryz.func42 rfl Tryz.ntmps42 rfl ?_
 have S := Sub.refl w
 refine RC.seq (RC.region rfl ?_);refine RL.box rfl rfl rfl (fun b_2 w_2 e_2 z_2 hb_2 s_2 => ?_);have S := S.trans s_2
 have hb_2 : Has w_2 b_2 ([.slice p.a1 m.map.length p.c1, .slice p.a2 m.tab.length p.c2, .slice p.a3 m.row.length p.c3, .slice p.a4 m.heap.length p.c4]) _ := hb_2
 refine RL.box rfl rfl rfl (fun b_3 w_3 e_3 z_3 hb_3 s_3 => ?_);have S := S.trans s_3;have hb_2 := hb_2.sub s_3
 have hb_3 : Has w_3 b_3 ([.slice q.a1 n.map.length q.c1, .slice q.a2 n.tab.length q.c2, .slice q.a3 n.row.length q.c3, .slice q.a4 n.heap.length q.c4]) _ := hb_3
 refine RL.asS rfl ?_;refine RL.nil (RC.back (RC.seq (RC.region rfl ?_)));refine RL.eS (.field0 fo45_0 rfl) ?_;refine RL.eS (.load1 sh42 rfl (hb_2.cell rfl)) ?_;refine RL.eS (.field0 fo45_0 rfl) ?_;refine RL.eS (.load1 sh42 rfl (hb_3.cell rfl)) ?_;refine RL.call rfl ok94 (c_equal m.map n.map p.a1 q.a1 p.c1 q.c1 _ _ rfl rfl w_3 (hm.sub S).h1 (hn.sub S).h1 (by omega)) rfl rfl ?_;rintro _ w1 ⟨rfl, s2⟩;have S := S.trans s2;have hb_2 := hb_2.sub s2;have hb_3 := hb_3.sub s2;refine RL.mvS rfl ?_;refine RL.split 10 rfl (fun h3 => ?_) (fun h3 => ?_)
 ·
  have g10 : m.map = n.map := h3
  refine RL.eS (.field0 fo45_1 rfl) ?_;refine RL.eS (.load1 sh42 rfl (hb_2.cell rfl)) ?_;refine RL.eS (.field0 fo45_1 rfl) ?_;refine RL.eS (.load1 sh42 rfl (hb_3.cell rfl)) ?_;refine RL.call rfl ok94 (c_equal m.tab n.tab p.a2 q.a2 p.c2 q.c2 _ _ rfl rfl w1 (hm.sub S).h2 (hn.sub S).h2 (by omega)) rfl rfl ?_;rintro _ w4 ⟨rfl, s5⟩;have S := S.trans s5;have hb_2 := hb_2.sub s5;have hb_3 := hb_3.sub s5;refine RL.eS (.pick_t rfl rfl) ?_;refine RL.mvS rfl ?_;refine RL.split 17 rfl (fun h6 => ?_) (fun h6 => ?_)
  ·
   have g17 : m.tab = n.tab := h6
   refine RL.eS (.field0 fo45_2 rfl) ?_;refine RL.eS (.load1 sh43 rfl (hb_2.cell rfl)) ?_;refine RL.eS (.field0 fo45_2 rfl) ?_;refine RL.eS (.load1 sh43 rfl (hb_3.cell rfl)) ?_;refine RL.call rfl ok95 (c_equal11 m.row n.row p.a3 q.a3 p.c3 q.c3 _ _ rfl rfl w4 (hm.sub S).h3 (hn.sub S).h3 (by omega)) rfl rfl ?_;rintro _ w7 ⟨rfl, s8⟩;have S := S.trans s8;have hb_2 := hb_2.sub s8;have hb_3 := hb_3.sub s8;refine RL.eS (.pick_t rfl rfl) ?_;refine RL.mvS rfl ?_;refine RL.split 24 rfl (fun h9 => ?_) (fun h9 => ?_)
   ·
    have g24 : m.row = n.row := h9
    refine RL.eS (.field0 fo45_3 rfl) ?_;refine RL.eS (.load1 sh42 rfl (hb_2.cell rfl)) ?_;refine RL.eS (.field0 fo45_3 rfl) ?_;refine RL.eS (.load1 sh42 rfl (hb_3.cell rfl)) ?_;refine RL.call rfl ok94 (c_equal m.heap n.heap p.a4 q.a4 p.c4 q.c4 _ _ rfl rfl w7 (hm.sub S).h4 (hn.sub S).h4 (by omega)) rfl rfl ?_;rintro _ w10 ⟨rfl, s11⟩;have S := S.trans s11;refine RL.eS (.pick_t rfl rfl) ?_;refine RL.asS rfl ?_;refine RL.nil (RC.back ?_);refine RC.d1 4 rfl rfl rfl ?_
    refine ⟨congrArg Value.bool ?_, S⟩
    first | exact (decide_eq_false (fun e => g10 e.1)).symm | exact (decide_eq_false (fun e => g17 e.2.1)).symm | exact (decide_eq_false (fun e => g24 e.2.2.1)).symm | exact decide_eq_decide.2 ⟨fun h => ⟨g10, g17, g24, h⟩, fun h => h.2.2.2⟩
   ·
    have g24 : ¬ m.row = n.row := h9
    refine RL.offs 5 rfl ?_;refine RL.eS (.pick_f rfl rfl) ?_;refine RL.asS rfl ?_;refine RL.nil (RC.back ?_);refine RC.d1 4 rfl rfl rfl ?_
    refine ⟨congrArg Value.bool ?_, S⟩
    first | exact (decide_eq_false (fun e => g10 e.1)).symm | exact (decide_eq_false (fun e => g17 e.2.1)).symm | exact (decide_eq_false (fun e => g24 e.2.2.1)).symm | exact decide_eq_decide.2 ⟨fun h => ⟨g10, g17, g24, h⟩, fun h => h.2.2.2⟩
  ·
   have g17 : ¬ m.tab = n.tab := h6
   refine RL.offs 5 rfl ?_;refine RL.eS (.pick_f rfl rfl) ?_;refine RL.mvS rfl ?_;refine RL.offs 5 rfl ?_;refine RL.eS (.pick_f rfl rfl) ?_;refine RL.asS rfl ?_;refine RL.nil (RC.back ?_);refine RC.d1 4 rfl rfl rfl ?_
   refine ⟨congrArg Value.bool ?_, S⟩
   first | exact (decide_eq_false (fun e => g10 e.1)).symm | exact (decide_eq_false (fun e => g17 e.2.1)).symm | exact (decide_eq_false (fun e => g24 e.2.2.1)).symm | exact decide_eq_decide.2 ⟨fun h => ⟨g10, g17, g24, h⟩, fun h => h.2.2.2⟩
 ·
  have g10 : ¬ m.map = n.map := h3
  refine RL.offs 5 rfl ?_;refine RL.eS (.pick_f rfl rfl) ?_;refine RL.mvS rfl ?_;refine RL.offs 5 rfl ?_;refine RL.eS (.pick_f rfl rfl) ?_;refine RL.mvS rfl ?_;refine RL.offs 5 rfl ?_;refine RL.eS (.pick_f rfl rfl) ?_;refine RL.asS rfl ?_;refine RL.nil (RC.back ?_);refine RC.d1 4 rfl rfl rfl ?_
  refine ⟨congrArg Value.bool ?_, S⟩
  first | exact (decide_eq_false (fun e => g10 e.1)).symm | exact (decide_eq_false (fun e => g17 e.2.1)).symm | exact (decide_eq_false (fun e => g24 e.2.2.1)).symm | exact decide_eq_decide.2 ⟨fun h => ⟨g10, g17, g24, h⟩, fun h => h.2.2.2⟩
def keyOk (x : It) : Prop := -1073741824 ≤ x.k ∧ x.k ≤ 1073741824
def hSrt (l : List It) : Prop := l.Pairwise fun x y => ¬ lessP y x
structure IsC (A : Ar) (R : Rt) (m : Mo) : Prop where
  ok : AOk A
  map : IsT A R.m m.map
  mapl : m.map.length ≤ 200
  tab : ∃ T, IsH A 10 R.t T ∧ Ap T ∧ T.length ≤ 200 ∧ m.tab.Perm T
  tabs : Srt m.tab
  row : ∃ P, IsR A R.r m.row P
  rowl : m.row.length ≤ 200
  heap : ∃ P L, IsP A R.h P L ∧ m.heap.Perm L
  heaps : hSrt m.heap
  keys : ∀ x ∈ m.map ++ (m.tab ++ m.heap), keyOk x
theorem IsC.isMap {A R m} (h : IsC A R m) : isMap A R.m := ⟨h.ok, m.map, h.map, h.mapl⟩
theorem IsC.isTab {A R m} (h : IsC A R m) : isTab A R.t := let ⟨T, h1, h2, h3, _⟩ := h.tab; ⟨h.ok, T, h1, h2, h3⟩
theorem IsC.isRow {A R m} (h : IsC A R m) : isRow A R.r := let ⟨P, h1⟩ := h.row; ⟨h.ok, m.row, P, h1, h.rowl⟩
theorem srt_perm : ∀ {l m : List It}, Srt l → Srt m → l.Perm m → l = m
  | [], m, _, _, h => (List.nil_perm.1 h).symm
  | x :: l, [], _, _, h => absurd h.length_eq (by simp)
  | x :: l, y :: m, h1, h2, h => by
    have q1 := List.pairwise_cons.1 h1
    have q2 := List.pairwise_cons.1 h2
    have e : x = y := by
      have hx : x ∈ y :: m := h.mem_iff.1 (by simp)
      have hy : y ∈ x :: l := h.mem_iff.2 (by simp)
      rcases List.mem_cons.1 hx with e | hx
      · exact e
      · rcases List.mem_cons.1 hy with e | hy
        · exact e.symm
        · have := q1.1 y hy
          have := q2.1 x hx
          omega
    subst e
    rw [srt_perm q1.2 q2.2 h.cons_inv]
theorem IsC.zero {A : Ar} (h : AOk A) : IsC A rt0 m0 :=
  ⟨h, .nil, by decide, ⟨[], isH_nil.2 rfl, List.Pairwise.nil, by decide, .nil⟩, List.Pairwise.nil, ⟨[], .nil⟩, by decide, ⟨[], [], IsP.zero A, .nil⟩, List.Pairwise.nil, fun x hx => by cases hx⟩
abbrev Wo (b : Nat) (s : St) (C : Nat → Prop) (u : World) : Prop := FoG 182 b s C u
theorem c_wget (b : Nat) (s : St) (C : Nat → Prop) (r : Int) (hr : U64 r) (w : World) (hF : Ft C (Wo b s C) w) :
  FC Tryz.prog 99 [.pointer (some ⟨b, 0, none⟩), .int .u64 r] w (Val (getN s.1 r).val w) := by
 obtain ⟨hCb, na, fa, nc, fc, M, hbf, hnc, hfc, hA, hMb, hMC⟩ := hF.now
 obtain ⟨e, hgv⟩ := getN_v s.1 r
 have hA := hA.now
 refine FC.intro Tryz.func99 rfl Tryz.ntmps99 rfl ?_
 have S := Sub.refl w
 refine RC.seq (RC.region rfl ?_);refine RL.alloc ze140 rfl rfl (fun b_4 w_4 e_4 z_4 hb_4 s_4 => ?_);have ge_4 := S.le e_4;have S := S.trans s_4;have hbf := hbf.sub s_4;refine RL.nil (RC.back (RC.seq (RC.region rfl ?_)));refine RL.mvS rfl ?_;refine RL.eS (.nilCheck rfl) ?_;refine RL.eS (.field0 fo182_0 rfl) ?_;refine RL.eS (.loadR (wvA na fa nc fc s.1) sh26 rfl (row_pref (xs := wvA na fa nc fc s.1) (ys := [.int .i64 s.2]) hbf) rfl) ?_;refine RL.mvS rfl ?_;refine RL.call rfl ok125 (c_aGet s.1 na fa nc fc r hr w_4 (hA.sub S)) rfl rfl ?_;rintro _ w1 ⟨rfl, s2⟩;have S := S.trans s2;have hb_4 := hb_4.sub s2;refine RL.eS (.as (v' := .tuple #[(getN s.1 r).val, .int .i64 e]) (.move rfl) (by rw [hgv])) ?_;refine RL.eS (.extract rfl rfl) ?_;refine RL.eS (.extract rfl rfl) ?_;refine RL.alloc ze140 rfl rfl (fun b_5 w_5 e_5 z_5 hb_5 s_5 => ?_);have ge_5 := S.le e_5;have n_4__5 := hb_4.ne e_5;have S := S.trans s_5;have hb_4 := hb_4.sub s_5;refine RL.stS sh140 rfl rfl rfl hb_5 (fun w3 z3 hb_5 a3 => ?_);have S := S.upd a3 ge_5;have hb_4 := hb_4.upd a3 n_4__5
 have hb_5 : Has w3 b_5 ((getN s.1 r).cells) _ := hb_5.now (by kernel_rfl)
 refine RL.asS rfl ?_;refine RL.nil (RC.back (RC.seq (RC.region rfl ?_)));refine RL.eS (.loadR ((getN s.1 r).cells) sh140 rfl hb_5.row rfl) ?_;refine RL.stS sh140 rfl rfl rfl hb_4 (fun w4 z4 hb_4 a4 => ?_);have S := S.upd a4 ge_4
 have hb_4 : Has w4 b_4 ((getN s.1 r).cells) _ := hb_4.now (by kernel_rfl)
 refine RL.nil (RC.back ?_);refine RC.done (rs := [.cell 4 140]) (vs := [_]) rfl rfl ⟨⟨_, rfl, .inr ⟨(getN s.1 r).cells, sh140, hb_4.row, rfl⟩⟩, trivial⟩ ?_
 exact ⟨rfl, S⟩
def rB (y : Node) (a b : Int) : Node := ⟨y.kind, y.gen, 0, y.v, y.s, a, b, 0, 0, 0, 0, 0, 0, 0, 0, 0⟩
theorem mayR_rng (A : Ar) : ∀ (k : Nat) (r : Int) (seen : List Bool) (left : Int), 0 ≤ left → -1 ≤ (mayR A k r seen left).1 ∧ (mayR A k r seen left).1 ≤ left ∧ (mayR A k r seen left).2.length = seen.length
  | 0, r, seen, left, h => by rw [mayR]; split <;> exact ⟨by omega, by omega, rfl⟩
  | k + 1, r, seen, left, h => by
    by_cases h0 : r = 0
    · subst h0; rw [mayR_0]; exact ⟨by omega, h, rfl⟩
    · cases hg : getA A r with
      | none => rw [mayR_no h0 hg]; exact ⟨by omega, by omega, rfl⟩
      | some y =>
        by_cases hc : left ≤ 0 ∨ ¬ y.kind = 5 ∨ seen.getD (placeR r).toNat false = true
        · rw [mayR_bad h0 hg hc]; exact ⟨by omega, by omega, rfl⟩
        · obtain ⟨m1, hm1⟩ : ∃ m, mayR A k y.k0 (seen.set (placeR r).toNat true) (left - 1) = m := ⟨_, rfl⟩
          have hl0 : ¬ left ≤ 0 := fun e => hc (.inl e)
          have h1 := mayR_rng A k y.k0 (seen.set (placeR r).toNat true) (left - 1) (by omega)
          rw [hm1, List.length_set] at h1
          by_cases hc2 : m1.1 < 0 ∨ ¬ rBare y = y
          · rw [mayR_bad2 h0 hg hc hm1 hc2]; exact ⟨by omega, by omega, h1.2.2⟩
          · obtain ⟨m2, hm2⟩ : ∃ m, mayR A k y.k1 m1.2 (left - 1 - m1.1) = m := ⟨_, rfl⟩
            have h2 := mayR_rng A k y.k1 m1.2 (left - 1 - m1.1) (by omega)
            rw [hm2, h1.2.2] at h2
            have hm0 : 0 ≤ m1.1 := Int.not_lt.1 fun e => hc2 (.inl e)
            by_cases hc3 : m2.1 < 0 ∨ ¬ m1.1 + m2.1 + 1 = y.s
            · rw [mayR_bad3 h0 hg hc hm1 hc2 hm2 hc3]; exact ⟨by omega, by omega, h2.2.2⟩
            · rw [mayR_good h0 hg hc hm1 hc2 hm2 hc3]; exact ⟨by simp only []; omega, by simp only []; omega, h2.2.2⟩
theorem seen_get {seen : List Bool} {p : Int} (h : 0 ≤ p ∧ p < seen.length) : (seen.map Value.bool)[p.toNat]? = some (.bool (seen.getD p.toNat false)) := by
  rw [List.getElem?_map, List.getD_eq_getElem?_getD, List.getElem?_eq_getElem (by omega)]; rfl
set_option maxHeartbeats 4000000 in
theorem c_dmay (A : Ar) (na fa : Option Addr) (nc fc : Nat) (bad : Int) (bf bs : Nat) (hfs : bf ≠ bs) (M : Nat → Prop) (hMs : ∀ k, M k → k ≠ bs) (hmost : A.nodes.length ≤ 512) : ∀ (k : Nat) (r : Int) (seen : List Bool) (left : Int) (w : World), U64 r → 0 ≤ left → left < k → left ≤ 200 → seen.length = A.nodes.length → Has w bf (wvC na fa nc fc A bad) 182 → Has w bs (seen.map Value.bool) 4 → Ft M (fun u => ArR u na fa A) w →
    FC Tryz.prog 229 [.pointer (some ⟨bf, 0, none⟩), .int .u64 r, .slice (some ⟨bs, 0, none⟩) A.nodes.length A.nodes.length, .int .i64 left] w (fun v w' => v = .int .i64 (mayR A k r seen left).1 ∧ Has w' bs ((mayR A k r seen left).2.map Value.bool) 4 ∧ Agr (· = bs) w w') := by
  intro k
  induction k with
  | zero => intro r seen left w _ h1 h2; omega
  | succ k ih =>
  intro r seen left w hr hl0 hlk hl hsl hbf hs hA
  obtain ⟨y, e, hgv, hgs, hgn⟩ := getV_form2 A r
  have nfs := hfs
  refine FC.intro Tryz.func229 rfl Tryz.ntmps229 rfl ?_
  have G : Agr (· = bs) w w := Agr.refl _ _
  refine RC.seq (RC.region rfl ?_);refine RL.asS rfl ?_;refine RL.nil (RC.back (RC.seq (RC.seq (RC.region rfl ?_))));refine RL.mvS rfl ?_;refine RL.eS (.bin rfl rfl rfl) ?_;refine RL.nil (RC.back ?_);refine RC.cond_dec rfl (fun h1 => ?_) (fun h1 => ?_)
  ·
    have hres : mayR A (k + 1) r seen left = (0, seen) := (by rw [h1, mayR_0])
    refine RC.seq (RC.region rfl ?_);refine RL.asS rfl ?_;refine RL.nil (RC.back ?_);refine RC.d1 8 rfl rfl rfl ?_
    rw [hres]
    exact ⟨rfl, hs, G⟩
  ·
    have hr0 := h1
    refine RC.skip (RC.back (RC.seq (RC.region rfl ?_)));refine RL.mvS rfl ?_;refine RL.eS (.nilCheck rfl) ?_;refine RL.eS (.field0 fo182_0 rfl) ?_;refine RL.eS (.loadR ([.slice na A.nodes.length nc, .slice fa A.free.length fc]) sh26 rfl (row_pref (xs := wvA na fa nc fc A) (ys := [.int .i64 bad]) hbf) rfl) ?_;refine RL.mvS rfl ?_;refine RL.call rfl ok125 (c_aGet A na fa nc fc r hr w hA.now) rfl rfl ?_;rintro _ w2 ⟨rfl, s3⟩;have G := G.trans s3.agr;have hbf := hbf.sub s3;have hs := hs.sub s3;have hA := hA.sub s3;refine RL.eS (.as (v' := .tuple #[y.val, .int .i64 e]) (.move rfl) (by rw [hgv])) ?_;refine RL.eS (.extract rfl rfl) ?_;refine RL.eS (.extract rfl rfl) ?_;refine RL.alloc ze140 rfl rfl (fun b_9 w_9 e_9 z_9 hb_9 s_9 => ?_);have nf__9 := hbf.ne e_9;have ns__9 := hs.ne e_9;have d_hA_b_9 := hA.neNew e_9
    have geG_9 := agLe G e_9
    have G := G.trans s_9.agr;have hbf := hbf.sub s_9;have hs := hs.sub s_9;have hA := hA.sub s_9;refine RL.stS sh140 rfl rfl rfl hb_9 (fun w4 z4 hb_9 a4 => ?_)
    have G := agNew G a4 geG_9
    have hbf := hbf.upd a4 nf__9;have hs := hs.upd a4 ns__9;have hA := hA.updD a4 d_hA_b_9
    have hb_9 : Has w4 b_9 (y.cells) _ := hb_9.now (by kernel_rfl)
    refine RL.asS rfl ?_;refine RL.nil (RC.back (RC.seq (RC.seq (RC.region rfl ?_))));refine RL.mvS rfl ?_;refine RL.eS (.bin rfl rfl rfl) ?_;refine RL.mvS rfl ?_;refine RL.split 27 rfl (fun h5 => ?_) (fun h5 => ?_)
    ·
      have hres : mayR A (k + 1) r seen left = (-1, seen) := (by cases hg : getA A r with | none => exact mayR_no hr0 hg | some x => exact absurd (hgs x hg).2 h5)
      refine RL.offs 2 rfl ?_;refine RL.eS (.pick_t rfl rfl) ?_;refine RL.mvS rfl ?_;refine RL.offs 3 rfl ?_;refine RL.eS (.pick_t rfl rfl) ?_;refine RL.mvS rfl ?_;refine RL.offs 5 rfl ?_;refine RL.eS (.pick_t rfl rfl) ?_;refine RL.nil (RC.back ?_);refine RC.cond_t rfl ?_;refine RC.seq (RC.region rfl ?_);refine RL.asS rfl ?_;refine RL.nil (RC.back ?_);refine RC.d1 8 rfl rfl rfl ?_
      rw [hres]
      exact ⟨rfl, hs, G⟩
    ·
      have hy : getA A r = some y := (by cases hg : getA A r with | none => have := (hgn hg).2; omega | some x => rw [(hgs x hg).1])
      have hrg := getA_rng hy
      have hyo := hA.now.nok y (getA_nok hy)
      refine RL.mvS rfl ?_;refine RL.eS (.bin rfl rfl rfl) ?_;refine RL.eS (.pick_f rfl rfl) ?_;refine RL.mvS rfl ?_;refine RL.split 31 rfl (fun h6 => ?_) (fun h6 => ?_)
      ·
        have hres := mayR_bad (k := k) (seen := seen) hr0 hy (.inl h6)
        refine RL.offs 3 rfl ?_;refine RL.eS (.pick_t rfl rfl) ?_;refine RL.mvS rfl ?_;refine RL.offs 5 rfl ?_;refine RL.eS (.pick_t rfl rfl) ?_;refine RL.nil (RC.back ?_);refine RC.cond_t rfl ?_;refine RC.seq (RC.region rfl ?_);refine RL.asS rfl ?_;refine RL.nil (RC.back ?_);refine RC.d1 8 rfl rfl rfl ?_
        rw [hres]
        exact ⟨rfl, hs, G⟩
      ·
        have p31 := h6
        refine RL.eS (.field0 fo140_0 rfl) ?_;refine RL.eS (.load1 sh3 rfl (hb_9.cell rfl)) ?_;refine RL.eS (.bin rfl rfl rfl) ?_;refine RL.eS (.pick_f rfl rfl) ?_;refine RL.mvS rfl ?_;refine RL.split 36 rfl (fun h7 => ?_) (fun h7 => ?_)
        ·
          have hres := mayR_bad (k := k) (seen := seen) (left := left) hr0 hy (.inr (.inl h7))
          refine RL.offs 5 rfl ?_;refine RL.eS (.pick_t rfl rfl) ?_;refine RL.nil (RC.back ?_);refine RC.cond_t rfl ?_;refine RC.seq (RC.region rfl ?_);refine RL.asS rfl ?_;refine RL.nil (RC.back ?_);refine RC.d1 8 rfl rfl rfl ?_
          rw [hres]
          exact ⟨rfl, hs, G⟩
        ·
          have p36 := h7
          refine RL.mvS rfl ?_;refine RL.mvS rfl ?_;refine RL.call rfl ok169 (c_refPlace r hr w4) rfl rfl ?_;rintro _ w8 ⟨rfl, s9⟩;have G := G.trans s9.agr;have hbf := hbf.sub s9;have hs := hs.sub s9;have hA := hA.sub s9;have hb_9 := hb_9.sub s9;refine RL.eS (.indexO sl253 rfl rfl (by omega)) ?_;refine RL.eS (.load1 sh4 rfl (hs.cell (v := .bool (seen.getD (placeR r).toNat false)) (by rw [Nat.mul_one, Nat.zero_add]; exact seen_get (by omega)))) ?_;refine RL.eS (.pick_f rfl rfl) ?_;refine RL.nil (RC.back ?_);refine RC.cond rfl (fun h10 => ?_) (fun h10 => ?_)
          ·
            have hres := mayR_bad (k := k) (seen := seen) (left := left) hr0 hy (.inr (.inr h10))
            refine RC.seq (RC.region rfl ?_);refine RL.asS rfl ?_;refine RL.nil (RC.back ?_);refine RC.d1 8 rfl rfl rfl ?_
            rw [hres]
            exact ⟨rfl, hs, G⟩
          ·
            have hnb : ¬ (left ≤ 0 ∨ ¬ y.kind = 5 ∨ seen.getD (placeR r).toNat false = true) := (fun e => e.elim p31 (fun e => e.elim p36 (fun e => by have h2 := h10; rw [e] at h2; cases h2)))
            have hk5 : y.kind = 5 := Decidable.not_not.1 (fun e => hnb (.inr (.inl e)))
            refine RC.skip (RC.back (RC.seq (RC.region rfl ?_)));refine RL.mvS rfl ?_;refine RL.mvS rfl ?_;refine RL.call rfl ok169 (c_refPlace r hr w8) rfl rfl ?_;rintro _ w11 ⟨rfl, s12⟩;have G := G.trans s12.agr;have hbf := hbf.sub s12;have hs := hs.sub s12;have hA := hA.sub s12;have hb_9 := hb_9.sub s12;refine RL.eS (.indexO sl253 rfl rfl (by omega)) ?_;refine RL.store sh4 rfl rfl rfl hs (by show 0 + (placeR r).toNat * 1 + 1 ≤ _; rw [List.length_map]; omega) (by rfl) rfl (fun w13 z13 hs a13 => ?_);have G := G.trans a13;have hbf := hbf.upd a13 nfs;have hA := hA.updD a13 hMs;have hb_9 := hb_9.upd a13 ns__9.symm
            have hs := (Has.set1 (enc := Value.bool) (i := (placeR r).toNat) (x := true) (by rw [Nat.zero_add, Nat.mul_one] at hs; exact hs))
            refine RL.nil (RC.back (RC.seq (RC.region rfl ?_)));refine RL.eS (.field0 fo140_0 rfl) ?_;refine RL.eS (.load1 sh3 rfl (hb_9.cell rfl)) ?_;refine RL.eS (.field0 fo140_1 rfl) ?_;refine RL.eS (.load1 sh3 rfl (hb_9.cell rfl)) ?_;refine RL.eS (.field0 fo140_3 rfl) ?_;refine RL.eS (.load1 sh2 rfl (hb_9.cell rfl)) ?_;refine RL.eS (.field0 fo140_4 rfl) ?_;refine RL.eS (.load1 sh2 rfl (hb_9.cell rfl)) ?_;refine RL.eS (.buildS ze140 pl140 rfl rfl) ?_;refine RL.alloc ze140 rfl rfl (fun b_11 w_11 e_11 z_11 hb_11 s_11 => ?_);have nf__11 := hbf.ne e_11;have ns__11 := hs.ne e_11;have n_9__11 := hb_9.ne e_11;have d_hA_b_11 := hA.neNew e_11
            have geG_11 := agLe G e_11
            have G := G.trans s_11.agr;have hbf := hbf.sub s_11;have hs := hs.sub s_11;have hA := hA.sub s_11;have hb_9 := hb_9.sub s_11;refine RL.stS sh140 rfl rfl rfl hb_11 (fun w14 z14 hb_11 a14 => ?_)
            have G := agNew G a14 geG_11
            have hbf := hbf.upd a14 nf__11;have hs := hs.upd a14 ns__11;have hA := hA.updD a14 d_hA_b_11;have hb_9 := hb_9.upd a14 n_9__11
            have hb_11 : Has w14 b_11 ((rB y 0 0).cells) _ := hb_11.now (by kernel_rfl)
            refine RL.nil (RC.back ?_);refine RC.cutx (α := Unit) (fun _ => [(0, .pointer (some ⟨bf, 0, none⟩)), (2, .slice (some ⟨bs, 0, none⟩) A.nodes.length A.nodes.length), (3, .int .i64 left), (9, .pointer (some ⟨b_9, 0, none⟩)), (11, .pointer (some ⟨b_11, 0, none⟩))]) (fun _ w15 => Has w15 bf (wvC na fa nc fc A bad) 182 ∧ Has w15 bs ((seen.set (placeR r).toNat true).map Value.bool) 4 ∧ Has w15 b_9 y.cells 140 ∧ Has w15 b_11 (rB y y.k0 y.k1).cells 140 ∧ Ft M (fun u => ArR u na fa A) w15 ∧ Agr (· = bs) w w15) ?_ (fun _ w15 hJ => ?_)
            ·
              refine RC.drawD (fun k => k = b_11) [8, 11] w14.heap.size 12 rfl rfl mxo (fun w16 s17 => ?_);have ltD_b_9 := hb_9.lt;have G := G.trans s17.agr;have hbf := hbf.sub s17;have hs := hs.sub s17;have hA := hA.sub s17;have hb_9 := hb_9.sub s17;have hb_11 := hb_11.sub s17;refine RD.tS 0 rfl (fun w' s' => .field0 fo140_5 rfl) ?_;refine RD.tS 1 rfl (fun w' s' => .indexArr ar138 rfl rfl (by omega)) ?_;refine RD.tS 2 rfl (fun w' s' => .load1 sh31 rfl ((hb_9.step s' (fun e => e.elim (fun e => n_9__11 e) (fun e => Nat.not_le.2 ltD_b_9 e))).cell rfl)) ?_;refine RD.tS 3 rfl (fun w' s' => .field0 fo140_5 rfl) ?_;refine RD.tS 4 rfl (fun w' s' => .indexArr ar138 rfl rfl (by omega)) ?_;refine RD.tS 5 rfl (fun w' s' => .load1 sh31 rfl ((hb_9.step s' (fun e => e.elim (fun e => n_9__11 e) (fun e => Nat.not_le.2 ltD_b_9 e))).cell rfl)) ?_;refine RD.tS 6 rfl (fun w' s' => .field0 fo140_5 rfl) ?_;refine RD.tS 7 rfl (fun w' s' => .indexArr ar138 rfl rfl (by omega)) ?_;refine RD.tS 9 rfl (fun w' s' => .field0 fo140_5 rfl) ?_;refine RD.oneS 8 rfl ?_;refine RL.stS sh31 rfl rfl rfl hb_11 (fun w18 z18 hb_11 a18 => ?_)
              have G := agNew G a18 geG_11
              have hbf := hbf.upd a18 nf__11;have hs := hs.upd a18 ns__11;have hA := hA.updD a18 d_hA_b_11;have hb_9 := hb_9.upd a18 n_9__11;refine RD.backW rfl (a18.mono fun k _ e => e ▸ (.inl (rfl))) ?_;refine RD.tS 10 rfl (fun w' s' => .indexArr ar138 rfl rfl (by omega)) ?_;refine RD.oneS 11 rfl ?_;refine RL.stS sh31 rfl rfl rfl hb_11 (fun w19 z19 hb_11 a19 => ?_)
              have G := agNew G a19 geG_11
              have hbf := hbf.upd a19 nf__11;have hs := hs.upd a19 ns__11;have hA := hA.updD a19 d_hA_b_11;have hb_9 := hb_9.upd a19 n_9__11;refine RD.backW rfl (a19.mono fun k _ e => e ▸ (.inl (rfl))) ?_
              exact RD.done (by kernel_rfl) (fun a ka => ⟨(), ⟨hbf, hs, hb_9, hb_11, hA, G⟩, ka.keep (keep_of (by repeat (first | exact trivial | refine And.intro rfl ?_)))⟩)
            obtain ⟨hbf, hs, hb_9, hb_11, hA, G⟩ := hJ
            refine RC.seq (RC.region rfl ?_);refine RL.mvS rfl ?_;refine RL.eS (.field0 fo140_5 rfl) ?_;refine RL.eS (.indexArr ar138 rfl rfl (by omega)) ?_;refine RL.eS (.load1 sh31 rfl (hb_9.cell rfl)) ?_;refine RL.mvS rfl ?_;refine RL.mvS rfl ?_;refine RL.eS (.as (.bin rfl rfl rfl) (wi64 (y := left - 1) (by rfl) (by omega))) ?_;refine RL.call rfl ok229 (ih y.k0 (seen.set (placeR r).toNat true) (left - 1) w15 (hyo.kids _ (by simp [Node.kids])) (by omega) (by omega) (by omega) (by rw [List.length_set]; exact hsl) hbf hs hA) rfl rfl ?_;rintro vr w20 ⟨hv, hs1, ag⟩;have G := G.trans ag;have hbf := hbf.upd ag nfs;have hb_9 := hb_9.upd ag ns__9.symm;have hb_11 := hb_11.upd ag ns__11.symm;have hA := hA.updD ag hMs
            have hs := hs1
            obtain ⟨m1, hm1⟩ : ∃ m, mayR A k y.k0 (seen.set (placeR r).toNat true) (left - 1) = m := ⟨_, rfl⟩
            have hml := mayR_rng A k y.k0 (seen.set (placeR r).toNat true) (left - 1) (by omega)
            rw [hm1, List.length_set] at hml
            rw [hm1] at hv hs
            subst hv
            refine RL.asS rfl ?_;refine RL.nil (RC.back (RC.seq (RC.seq (RC.region rfl ?_))));refine RL.mvS rfl ?_;refine RL.eS (.bin rfl rfl rfl) ?_;refine RL.mvS rfl ?_;refine RL.split 76 rfl (fun h22 => ?_) (fun h22 => ?_)
            ·
              have hres := mayR_bad2 hr0 hy hnb hm1 (.inl h22)
              refine RL.offs 3 rfl ?_;refine RL.eS (.pick_t rfl rfl) ?_;refine RL.nil (RC.back ?_);refine RC.cond_t rfl ?_;refine RC.seq (RC.region rfl ?_);refine RL.asS rfl ?_;refine RL.nil (RC.back ?_);refine RC.d1 8 rfl rfl rfl ?_
              rw [hres]
              exact ⟨rfl, hs, G⟩
            ·
              have hp0 := h22
              refine RL.eS (.loadR (y.cells) sh140 rfl hb_9.row rfl) ?_;refine RL.eS (.loadR ((rB y y.k0 y.k1).cells) sh140 rfl hb_11.row rfl) ?_;refine RL.eS (.neS (xs := y.cells) (ys := (rB y y.k0 y.k1).cells) fk140 eg140 sh140 rfl rfl rfl rfl rfl) ?_;refine RL.eS (.pick_f rfl rfl) ?_;refine RL.nil (RC.back ?_);refine RC.cond rfl (fun h23 => ?_) (fun h23 => ?_)
              ·
                have hres := mayR_bad2 hr0 hy hnb hm1 (.inr (fun e => by have h2 := h23; rw [eqL_cells, decide_eq_true (show y = rB y y.k0 y.k1 from e.symm)] at h2; cases h2))
                refine RC.seq (RC.region rfl ?_);refine RL.asS rfl ?_;refine RL.nil (RC.back ?_);refine RC.d1 8 rfl rfl rfl ?_
                rw [hres]
                exact ⟨rfl, hs, G⟩
              ·
                have hbr : rBare y = y := (by have h2 := h23; rw [eqL_cells] at h2; simp only [Bool.not_eq_false', decide_eq_true_eq] at h2; exact h2.symm)
                have hc2 : ¬ (m1.1 < 0 ∨ ¬ rBare y = y) := (fun e => e.elim hp0 (fun e => e hbr))
                refine RC.skip (RC.back (RC.seq (RC.region rfl ?_)));refine RL.mvS rfl ?_;refine RL.eS (.field0 fo140_5 rfl) ?_;refine RL.eS (.indexArr ar138 rfl rfl (by omega)) ?_;refine RL.eS (.load1 sh31 rfl (hb_9.cell rfl)) ?_;refine RL.mvS rfl ?_;refine RL.mvS rfl ?_;refine RL.eS (.as (.bin rfl rfl rfl) (wi64 (y := left - 1) (by rfl) (by omega))) ?_;refine RL.mvS rfl ?_;refine RL.eS (.as (.bin rfl rfl rfl) (wi64 (y := left - 1 - m1.1) (by rfl) (by omega))) ?_;refine RL.call rfl ok229 (ih y.k1 m1.2 (left - 1 - m1.1) w20 (hyo.kids _ (by simp [Node.kids])) (by omega) (by omega) (by omega) (by omega) hbf hs hA) rfl rfl ?_;rintro vr w24 ⟨hv, hs1, ag⟩;have G := G.trans ag;have hb_9 := hb_9.upd ag ns__9.symm
                have hs := hs1
                obtain ⟨m2, hm2⟩ : ∃ m, mayR A k y.k1 m1.2 (left - 1 - m1.1) = m := ⟨_, rfl⟩
                have hml2 := mayR_rng A k y.k1 m1.2 (left - 1 - m1.1) (by omega)
                rw [hm2] at hml2 hv hs
                subst hv
                refine RL.asS rfl ?_;refine RL.nil (RC.back (RC.seq (RC.seq (RC.region rfl ?_))));refine RL.mvS rfl ?_;refine RL.eS (.bin rfl rfl rfl) ?_;refine RL.mvS rfl ?_;refine RL.split 93 rfl (fun h26 => ?_) (fun h26 => ?_)
                ·
                  have hres := mayR_bad3 hr0 hy hnb hm1 hc2 hm2 (.inl h26)
                  refine RL.offs 7 rfl ?_;refine RL.eS (.pick_t rfl rfl) ?_;refine RL.nil (RC.back ?_);refine RC.cond_t rfl ?_;refine RC.seq (RC.region rfl ?_);refine RL.asS rfl ?_;refine RL.nil (RC.back ?_);refine RC.d1 8 rfl rfl rfl ?_
                  rw [hres]
                  exact ⟨rfl, hs, G⟩
                ·
                  have hq0 := h26
                  refine RL.mvS rfl ?_;refine RL.mvS rfl ?_;refine RL.eS (.as (.bin rfl rfl rfl) (wi64 (y := m1.1 + m2.1) (by rfl) (by omega))) ?_;refine RL.eS (.as (.bin rfl rfl rfl) (wi64 (y := m1.1 + m2.1 + 1) (by rfl) (by omega))) ?_;refine RL.eS (.field0 fo140_4 rfl) ?_;refine RL.eS (.load1 sh2 rfl (hb_9.cell rfl)) ?_;refine RL.eS (.bin rfl rfl rfl) ?_;refine RL.eS (.pick_f rfl rfl) ?_;refine RL.nil (RC.back ?_);refine RC.cond_dec rfl (fun h27 => ?_) (fun h27 => ?_)
                  ·
                    have hres := mayR_bad3 hr0 hy hnb hm1 hc2 hm2 (.inr h27)
                    refine RC.seq (RC.region rfl ?_);refine RL.asS rfl ?_;refine RL.nil (RC.back ?_);refine RC.d1 8 rfl rfl rfl ?_
                    rw [hres]
                    exact ⟨rfl, hs, G⟩
                  ·
                    have hres := mayR_good hr0 hy hnb hm1 hc2 hm2 (fun e => e.elim hq0 (fun e => e (Decidable.not_not.1 h27)))
                    refine RC.skip (RC.back (RC.seq (RC.region rfl ?_)));refine RL.mvS rfl ?_;refine RL.mvS rfl ?_;refine RL.eS (.as (.bin rfl rfl rfl) (wi64 (y := m1.1 + m2.1) (by rfl) (by omega))) ?_;refine RL.eS (.as (.bin rfl rfl rfl) (wi64 (y := m1.1 + m2.1 + 1) (by rfl) (by omega))) ?_;refine RL.asS rfl ?_;refine RL.nil (RC.back ?_);refine RC.d1 8 rfl rfl rfl ?_
                    rw [hres]
                    exact ⟨rfl, hs, G⟩
noncomputable def allRows (A : Ar) (l : List Int) : Bool := aokB A && l.all (isRowB A)
theorem mayd_neg {A : Ar} {r : Int} (hA : AOk A) (h : (mayR A 201 r (List.replicate A.nodes.length false) 200).1 < 0) : isRowB A r = false := isRowB_no (fun e => by have := (isRow_iff hA).2 e; omega)
theorem mayd_pos {A : Ar} {r : Int} (hA : AOk A) (h : ¬ (mayR A 201 r (List.replicate A.nodes.length false) 200).1 < 0) : isRowB A r = true := isRowB_yes ((isRow_iff hA).1 (by omega))
theorem allTake {α : Type} {p : α → Bool} {l : List α} {i : Nat} {x : α} (h : l[i]? = some x) (hp : (l.take i).all p = true) (hx : p x = true) : (l.take (i + 1)).all p = true := by
  rw [List.take_add_one, h, List.all_append, hp]; simp [hx]
theorem allNo {α : Type} {p : α → Bool} {l : List α} {i : Nat} {x : α} (h : l[i]? = some x) (hx : p x = false) : l.all p = false := by
  rw [List.all_eq_false]; exact ⟨x, List.mem_of_getElem? h, by rw [hx]; simp⟩
theorem c_dright (A : Ar) (na fa : Option Addr) (nc fc : Nat) (hnc : A.nodes.length ≤ nc) (hfc : A.free.length ≤ fc) (l : List Int) (m : Nat) (hm : m = l.length) (pa : Option Addr) (pc : Nat) (hl : l.length ≤ 10000) (hli : ∀ x ∈ l, U64 x) (w : World) (hA : ArR w na fa A) (hP : Sl w pa 1 (l.map fun x => [u6 x])) :
  FC Tryz.prog 167 [arV na fa nc fc A, .slice pa m pc] w (Val (.bool (allRows A l)) w) := by
 subst hm
 have hN := hA.nodes
 have hFr := hA.free
 have hF : Ft (· < w.heap.size) (fun u => ArR u na fa A) w := Ft.of_sub fun u s => hA.sub s
 refine FC.intro Tryz.func167 rfl Tryz.ntmps167 rfl ?_
 have S := Sub.refl w
 refine RC.seq (RC.region rfl ?_);refine RL.box rfl rfl rfl (fun b_2 w_2 e_2 z_2 hb_2 s_2 => ?_);have S := S.trans s_2
 have hb_2 : Has w_2 b_2 ([.slice na A.nodes.length nc, .slice fa A.free.length fc]) _ := hb_2
 refine RL.asS rfl ?_;refine RL.nil (RC.back (RC.seq (RC.region rfl ?_)));refine RL.eS (.loadR ([.slice na A.nodes.length nc, .slice fa A.free.length fc]) sh26 rfl hb_2.row rfl) ?_;refine RL.eS (.buildS ze182 pl182 rfl rfl) ?_;refine RL.box rfl rfl rfl (fun b_10 w_10 e_10 z_10 hb_10 s_10 => ?_);have S := S.trans s_10;have hb_2 := hb_2.sub s_10
 have hb_10 : Has w_10 b_10 (wvC na fa nc fc A 0) 182 := hb_10
 refine RL.asS rfl ?_;refine RL.nil (RC.back (RC.seq (RC.seq (RC.region rfl ?_))));refine RL.eS (.loadR ([.slice na A.nodes.length nc, .slice fa A.free.length fc]) sh26 rfl hb_2.row rfl) ?_;refine RL.call rfl ok109 (c_aRight A na fa nc fc w_10 (hA.sub S)) rfl rfl ?_;rintro _ w1 ⟨rfl, s2⟩;have S := S.trans s2;have hb_2 := hb_2.sub s2;have hb_10 := hb_10.sub s2;refine RL.eS (.not rfl) ?_;refine RL.nil (RC.back ?_);refine RC.cond rfl (fun h3 => ?_) (fun h3 => ?_)
 ·
  have hno : aokB A = false := (by simpa using h3)
  refine RC.seq (RC.region rfl ?_);refine RL.asS rfl ?_;refine RL.nil (RC.back ?_);refine RC.d1 4 rfl rfl rfl ?_
  rw [allRows, hno]
  exact ⟨rfl, S⟩
 ·
  have hokb : aokB A = true := (by simpa using h3)
  have hok : AOk A := (aokB_iff A).1 hokb
  have hmost := hok.most
  refine RC.skip (RC.back (RC.seq (RC.seq (RC.region rfl ?_))));refine RL.mvS rfl ?_;refine RL.eS (.len sl73 rfl) ?_;refine RL.mvS rfl ?_;refine RL.nil (RC.back (RC.block ?_));refine RC.loop (α := Nat) (fun i => [(2, .pointer (some ⟨b_2, 0, none⟩)), (5, .pointer (some ⟨b_10, 0, none⟩)), (14, .slice pa l.length pc), (15, .int .i64 (l.length : Int)), (16, .int .i64 (i : Int))]) (fun i w4 => i ≤ l.length ∧ (l.take i).all (isRowB A) = true ∧ Has w4 b_2 [.slice na A.nodes.length nc, .slice fa A.free.length fc] 26 ∧ Has w4 b_10 (wvC na fa nc fc A 0) 182 ∧ Sub w w4) (fun i => l.length - i) 0 (keep_of (by repeat (first | exact trivial | refine And.intro rfl ?_))) (⟨Nat.zero_le _, rfl, hb_2, hb_10, S⟩) (fun i w4 hJ => ?_)
  obtain ⟨hi, hp, hb_2, hb_10, S⟩ := hJ
  refine RC.seq (RC.region rfl ?_);refine RL.eS (.bin rfl rfl rfl) ?_;refine RL.nil (RC.back (RC.seq ?_));refine RC.cond_dec rfl (fun h5 => ?_) (fun h5 => ?_)
  ·
   obtain ⟨y, hy⟩ := getSome (l := l) (i := i) (by omega)
   refine RC.skip (RC.back (RC.seq (RC.block (RC.seq (RC.region rfl ?_)))));refine RL.eS (.indexS sl73 rfl rfl (by omega) (hP.is (i := 0) (by simp only [List.length_map, List.length_cons, List.length_nil]; omega))) ?_;refine RL.eS (.load1 sh31 rfl ((hP.sub S).one (enc := u6) (i := i) hy)) ?_;refine RL.asS rfl ?_;refine RL.nil (RC.back (RC.seq (RC.region rfl ?_)));refine RL.mvS rfl ?_;refine RL.mvS rfl ?_;refine RL.eS (.field0 fo26_0 rfl) ?_;refine RL.eS (.load1 sh23 rfl (hb_2.cell rfl)) ?_;refine RL.eS (.len sl23 rfl) ?_;refine RL.makeSlice sl253 ze4 rfl rfl rfl rfl (by omega) rfl rfl (fun b_25 w_25 e_25 z_25 hb_25 s_25 => ?_);have ge_25 := S.le e_25;have n_2__25 := hb_2.ne e_25;have n_10__25 := hb_10.ne e_25;have S := S.trans s_25;have hb_2 := hb_2.sub s_25;have hb_10 := hb_10.sub s_25
   have hs : Has w_25 b_25 ((List.replicate A.nodes.length false).map Value.bool) 4 := by have := hb_25; rw [List.map_replicate]; rw [Int.toNat_natCast] at this; rw [← rep1]; exact this
   refine RL.call rfl ok229 (c_dmay A na fa nc fc 0 b_10 b_25 n_10__25 (· < w.heap.size) (fun k hk e => by have := ge_25; omega) hmost 201 y (List.replicate A.nodes.length false) 200 w_25 (hli y (List.mem_of_getElem? hy)) (by decide) (by decide) (by decide) List.length_replicate hb_10 hs (hF.sub S)) rfl rfl ?_;rintro vr w6 ⟨hv, _, ag⟩;have S := S.upd ag ge_25;have hb_2 := hb_2.upd ag n_2__25;have hb_10 := hb_10.upd ag n_10__25
   subst hv
   refine RL.eS (.bin rfl rfl rfl) ?_;refine RL.nil (RC.back ?_);refine RC.cond_dec rfl (fun h8 => ?_) (fun h8 => ?_)
   ·
    have hbad := mayd_neg hok h8
    refine RC.seq (RC.region rfl ?_);refine RL.asS rfl ?_;refine RL.nil (RC.back ?_);refine RC.d1 4 rfl rfl rfl ?_
    rw [allRows, allNo hy hbad, Bool.and_false]
    exact ⟨rfl, S⟩
   ·
    have hgood := mayd_pos hok h8
    refine RC.skip (RC.back (RC.region rfl ?_));refine RL.eS (.as (.bin rfl rfl rfl) (wi64 (y := ((i + 1 : Nat) : Int)) (by omega) (by omega))) ?_;refine RL.mvS rfl ?_
    exact RL.nil (fun a ka => ⟨i + 1, ⟨by omega, allTake hy hp hgood, hb_2, hb_10, S⟩, by omega, ka.keep (keep_of (by repeat (first | exact trivial | refine And.intro rfl ?_)))⟩)
  ·
   obtain rfl : i = l.length := (by omega)
   rw [List.take_length] at hp
   refine RC.exit rfl (RC.back (RC.seq (RC.region rfl ?_)));refine RL.asS rfl ?_;refine RL.nil (RC.back ?_);refine RC.d1 4 rfl rfl rfl ?_
   rw [allRows, hp, hokb]
   exact ⟨rfl, S⟩
theorem isRowB_ok (A : Ar) (r : Int) : (aokB A && isRowB A r) = isRowB A r := by
  cases h : isRowB A r with
  | false => exact Bool.and_false _
  | true => rw [aokB_yes ((isRowB_iff A r).1 h).1]; rfl
theorem allRows_1 (A : Ar) (r : Int) : allRows A [r] = isRowB A r := by rw [allRows, List.all_cons, List.all_nil, Bool.and_true, isRowB_ok]
theorem c_dRight (A : Ar) (na fa : Option Addr) (nc fc : Nat) (hnc : A.nodes.length ≤ nc) (hfc : A.free.length ≤ fc) (r : Int) (hr : U64 r) (w : World) (hA : ArR w na fa A) :
  FC Tryz.prog 97 [arV na fa nc fc A, .int .u64 r] w (Val (.bool (isRowB A r)) w) := by
 have hN := hA.nodes
 have hFr := hA.free
 refine FC.intro Tryz.func97 rfl Tryz.ntmps97 rfl ?_
 have S := Sub.refl w
 refine RC.seq (RC.region rfl ?_);refine RL.box rfl rfl rfl (fun b_2 w_2 e_2 z_2 hb_2 s_2 => ?_);have S := S.trans s_2
 have hb_2 : Has w_2 b_2 ([.slice na A.nodes.length nc, .slice fa A.free.length fc]) _ := hb_2
 refine RL.asS rfl ?_;refine RL.nil (RC.back (RC.seq (RC.region rfl ?_)));refine RL.eS (.loadR ([.slice na A.nodes.length nc, .slice fa A.free.length fc]) sh26 rfl hb_2.row rfl) ?_;refine RL.mvS rfl ?_;refine RL.buildSlice1 sl73 _ ze31 rfl rfl rfl rfl rfl rfl rfl (fun b_7 w_7 e_7 z_7 hb_7 s_7 => ?_);have S := S.trans s_7;refine RL.call rfl ok167 (c_dright A na fa nc fc hnc hfc [r] 1 rfl (some ⟨b_7, 0, none⟩) 1 (Nat.le_of_ble_eq_true rfl) (fun x hx => by rw [List.mem_singleton] at hx; rw [hx]; exact hr) w_7 (hA.sub S) (Has.sl1 (enc := u6) (l := [r]) hb_7)) rfl rfl ?_;rintro _ w1 ⟨rfl, s2⟩;have S := S.trans s2;refine RL.asS rfl ?_;refine RL.nil (RC.back ?_);refine RC.d1 4 rfl rfl rfl ?_
 refine ⟨congrArg Value.bool (allRows_1 A r), S⟩
theorem isRow_len {A : Ar} {r : Int} {V P : List Int} (h : isRow A r) (hV : IsR A r V P) : V.length ≤ 200 := by
  obtain ⟨_, V', P', h1, h2⟩ := h
  rw [(h1.unique hV).1]; exact h2
theorem rowsL (A : Ar) (r : Int) : ∃ V P, isRow A r → IsR A r V P := by
  by_cases h : isRow A r
  · obtain ⟨_, V, P, hL, _⟩ := id h; exact ⟨V, P, fun _ => hL⟩
  · exact ⟨[], [], fun h' => absurd h' h⟩
def rowFn (b6 b8 b7 : Nat) : Value := .func (.func 98) #[] #[.pointer (some ⟨b6, 0, none⟩), .pointer (some ⟨b8, 0, none⟩), .pointer (some ⟨b7, 0, none⟩)]
structure RW (w0 : World) (E b6 b8 b7 b15 : Nat) (C : Nat → Prop) (A : Ar) (out : List Int) (a : Option Addr) (c : Nat) (w : World) : Prop where
  h6 : Has w b6 [.pointer (some ⟨b15, 0, none⟩)] 180
  h8 : Has w b8 [rowFn b6 b8 b7] 183
  h7 : Has w b7 [.slice a (out.map fun x => [i6 x]).length c] 43
  hF : Ft C (Wo b15 (A, 0) C) w
  o : Ows E w 2 1 (.slice a (out.map fun x => [i6 x]).length c) (out.map fun x => [i6 x])
  sz : E ≤ w.heap.size
  S : Sub w0 w
structure RWok (w0 : World) (E b6 b8 b7 : Nat) (C : Nat → Prop) : Prop where
  l6 : b6 < E
  l8 : b8 < E
  l7 : b7 < E
  n67 : b6 ≠ b7
  n87 : b8 ≠ b7
  dC : ∀ k, C k → k ≠ b7
  dE : ∀ k, C k → k < E
  g7 : w0.heap.size ≤ b7
  gE : w0.heap.size ≤ E
set_option maxHeartbeats 1000000 in
theorem c_drow1 (w0 : World) (E b6 b8 b7 b15 : Nat) (C : Nat → Prop) (hB : RWok w0 E b6 b8 b7 C) (A : Ar) {r : Int} {V P : List Int} (hV : IsR A r V P) : ∀ (out : List Int) (a : Option Addr) (c : Nat) (K : Nat → Prop) (I : World → Prop) (w : World), U64 r → out.length + V.length ≤ 1000 → RW w0 E b6 b8 b7 b15 C A out a c w → Ft K I w → (∀ k, K k → k ≠ b7) → (∀ k, ob (.slice a (out.map fun x => [i6 x]).length c) = some k → K k → False) →
    FC Tryz.prog 98 [.int .u64 r, .pointer (some ⟨b6, 0, none⟩), .pointer (some ⟨b8, 0, none⟩), .pointer (some ⟨b7, 0, none⟩)] w (fun _ w' => ∃ a' c', RW w0 E b6 b8 b7 b15 C A (out ++ V) a' c' w' ∧ Ft K I w' ∧ ∀ k, ob (.slice a' ((out ++ V).map fun x => [i6 x]).length c') = some k → K k → False) := by
  obtain ⟨l6, l8, l7, n67, n87, dC, dE, g7, gE⟩ := hB
  induction hV with
  | nil =>
    intro out a c K I w hr hl hs hI hK7 hKo
    refine FC.intro Tryz.func98 rfl Tryz.ntmps98 rfl ?_
    refine RC.seq (RC.seq (RC.region rfl ?_));refine RL.mvS rfl ?_;refine RL.eS (.bin rfl rfl rfl) ?_;refine RL.nil (RC.back ?_);refine RC.cond_dec rfl (fun h1 => ?_) (fun h1 => ?_)
    ·
      refine RC.done (rs := []) (vs := []) rfl rfl trivial ?_
      rw [List.append_nil]
      exact ⟨a, c, hs, hI, hKo⟩
    ·
      exact absurd rfl h1
  | @node r g v ra rb L R P Q t1 t2 t3 t4 ih1 ih2 =>
    intro out a c K I w hr hl hs hI hK7 hKo
    obtain ⟨x, hx, hxv, hxa, hxb⟩ : ∃ x, getA A r = some x ∧ x.v = v ∧ x.k0 = ra ∧ x.k1 = rb := ⟨_, t1, rfl, rfl, rfl⟩
    obtain ⟨q6, q8, q7, hF, o, szB, S⟩ := hs
    have hgx := getN_yes hx
    have hxo := hF.now.nok x (getA_nok hx)
    have hr0 : ¬ r = 0 := fun e => by rw [e, getA_00] at hx; cases hx
    have hk0 : U64 x.k0 := hxo.kids _ (by simp [Node.kids])
    have hk1 : U64 x.k1 := hxo.kids _ (by simp [Node.kids])
    clear t1
    subst hxv hxa hxb
    rw [List.length_append, List.length_cons] at hl
    have ge7 := g7
    have ge6 : True := trivial
    refine FC.intro Tryz.func98 rfl Tryz.ntmps98 rfl ?_
    have doF : ∀ k, ob (.slice a (out.map fun x => [i6 x]).length c) = some k → C k → False := (fun k h1 h2 => by have := (o.ge k h1).1; have := dE k h2; omega)
    refine RC.seq (RC.seq (RC.region rfl ?_));refine RL.mvS rfl ?_;refine RL.eS (.bin rfl rfl rfl) ?_;refine RL.nil (RC.back ?_);refine RC.cond_dec rfl (fun h1 => ?_) (fun h1 => ?_)
    ·
      exact absurd h1 hr0
    ·
      refine RC.skip (RC.back (RC.seq (RC.region rfl ?_)));refine RL.eS (.load1 sh180 rfl (q6.cell rfl)) ?_;refine RL.mvS rfl ?_;refine RL.call rfl ok99 ((hgx ▸ c_wget b15 (A, 0) C r hr w hF)) rfl rfl ?_;rintro _ w2 ⟨rfl, s3⟩;have S := S.trans s3;have q6 := q6.sub s3;have q8 := q8.sub s3;have q7 := q7.sub s3;have hF := hF.sub s3;have o := o.sub s3;have hI := hI.sub s3;have szB := Nat.le_trans szB s3.size;refine RL.alloc ze140 rfl rfl (fun b_5 w_5 e_5 z_5 hb_5 s_5 => ?_);have ge_5 := S.le e_5
      have n6__5 := q6.ne e_5
      have n8__5 := q8.ne e_5
      have n7__5 := q7.ne e_5
      have d_hF_b_5 := hF.neNew e_5;have d_o_b_5 := o.neNew e_5;have d_hI_b_5 := hI.neNew e_5;have S := S.trans s_5;have q6 := q6.sub s_5;have q8 := q8.sub s_5;have q7 := q7.sub s_5;have hF := hF.sub s_5;have o := o.sub s_5;have hI := hI.sub s_5;have szB := Nat.le_trans szB s_5.size;refine RL.stS sh140 rfl rfl rfl hb_5 (fun w4 z4 hb_5 a4 => ?_);have S := S.upd a4 ge_5;have q6 := q6.upd a4 n6__5;have q8 := q8.upd a4 n8__5;have q7 := q7.upd a4 n7__5;have hF := hF.updD a4 d_hF_b_5;have o := o.updD a4 d_o_b_5;have hI := hI.updD a4 d_hI_b_5;have szB := Nat.le_trans szB a4.size
      have hb_5 : Has w4 b_5 (x.cells) _ := hb_5.now (by kernel_rfl)
      refine RL.nil (RC.back (RC.seq (RC.region rfl ?_)));refine RL.eS (.load1 sh183 rfl (q8.cell rfl)) ?_;refine RL.eS (.field0 fo140_5 rfl) ?_;refine RL.eS (.indexArr ar138 rfl rfl (by omega)) ?_;refine RL.eS (.load1 sh31 rfl (hb_5.cell rfl)) ?_;refine RL.callv rfl rfl (us := []) (cs := [.pointer (some ⟨b6, 0, none⟩), .pointer (some ⟨b8, 0, none⟩), .pointer (some ⟨b7, 0, none⟩)]) ok98 (ih1 out a c (fun k => K k ∨ k = b_5) (fun u => Ft K I u ∧ Has u b_5 x.cells 140) w4 hk0 (by omega) ⟨q6, q8, q7, hF, o, szB, S⟩ (hI.self.and hb_5.ft) (fun k hk => hk.elim (hK7 k) (fun e e2 => by omega)) (fun k h1 h2 => h2.elim (hKo k h1) (fun e => d_o_b_5 k h1 e))) rfl rfl ?_;rintro _ w5 ⟨a2, c2, ⟨q6, q8, q7, hF, o, szB, S⟩, hI2, hKo2⟩
      have hI := hI2.now.1
      have hb_5 := hI2.now.2
      have hKo3 : ∀ k, ob (.slice a2 ((out ++ L).map fun x => [i6 x]).length c2) = some k → K k → False := (fun k h1 h2 => hKo2 k h1 (.inl h2))
      have d_o2_5 : ∀ k, ob (.slice a2 ((out ++ L).map fun x => [i6 x]).length c2) = some k → k ≠ b_5 := (fun k h1 h2 => hKo2 k h1 (.inr h2))
      have doF2 : ∀ k, ob (.slice a2 ((out ++ L).map fun x => [i6 x]).length c2) = some k → C k → False := (fun k h1 h2 => by have := (o.ge k h1).1; have := dE k h2; omega)
      obtain ⟨O, hO⟩ : ∃ O, O = out ++ L := ⟨_, rfl⟩
      rw [← hO] at q7 o hKo3 d_o2_5 doF2
      have hOl : O.length = out.length + L.length := (by rw [hO, List.length_append])
      have do6 : ∀ k, ob (.slice a2 (O.map fun x => [i6 x]).length c2) = some k → k ≠ b6 := (fun k hk e => by have := (o.ge k hk).1; omega)
      have do8 : ∀ k, ob (.slice a2 (O.map fun x => [i6 x]).length c2) = some k → k ≠ b8 := (fun k hk e => by have := (o.ge k hk).1; omega)
      have do7 : ∀ k, ob (.slice a2 (O.map fun x => [i6 x]).length c2) = some k → k ≠ b7 := (fun k hk e => by have := (o.ge k hk).1; omega)
      refine RL.nil (RC.back (RC.seq (RC.region rfl ?_)));refine RL.eS (.load1 sh43 rfl (q7.cell rfl)) ?_;refine RL.eS (.field0 fo140_3 rfl) ?_;refine RL.eS (.load1 sh2 rfl (hb_5.cell rfl)) ?_;refine RL.buildSlice1 sl43 _ ze2 rfl rfl rfl rfl rfl rfl rfl (fun b_19 w_19 e_19 z_19 hb_19 s_19 => ?_)
      have n6__19 := q6.ne e_19
      have n8__19 := q8.ne e_19
      have n7__19 := q7.ne e_19
      have S := S.trans s_19;have q6 := q6.sub s_19;have q8 := q8.sub s_19;have q7 := q7.sub s_19;have hF := hF.sub s_19;have o := o.sub s_19;have hI := hI.sub s_19;have szB := Nat.le_trans szB s_19.size;have hb_5 := hb_5.sub s_19;have sz_20 := S.size
      have ltb6_20 := q6.lt
      have ltb8_20 := q8.lt
      have ltb7_20 := q7.lt
      have ltb_5_20 := hb_5.lt
      have ltb_19_20 := hb_19.lt
      refine RL.append2 (base := E) (rows := O.map fun x => [i6 x]) (news := [_]) sl43 ze2 rfl rfl rfl rfl (.inl o) (Has.slOne hb_19) rfl (by intro r hr; rw [List.mem_singleton] at hr; subst hr; rfl) rfl (by (try simp only [List.length_map, List.length_nil, List.length_append, List.length_cons]); omega) (by (try simp only [List.length_map, List.length_nil, List.length_append, List.length_cons]); omega) (by omega) rfl rfl (fun v_20 w_20 hc_20 ho_20 ag_20 ob_20 => ?_)
      have o20 := ho_20 (.inl (by simp))
      rw [show _ ++ [_] = ((O ++ [x.v]).map fun x => [i6 x]) from by rw [List.map_append]; rfl] at o20
      have d_o20_b7 := obNe ob_20 do7 q7.lt;have dd_o20_hI := obDF ob_20 hKo3 (fun k hk => (hI.ge k hk).2)
      have S := S.agrN ag_20 (fun k e => Nat.le_trans (by omega) e.2)
      have q6 := q6.step ag_20 (fun e => do6 _ e.1 rfl);have q8 := q8.step ag_20 (fun e => do8 _ e.1 rfl);have q7 := q7.step ag_20 (fun e => do7 _ e.1 rfl);have hF := hF.step ag_20 (fun k hk e => doF2 k e.1 hk);have hI := hI.step ag_20 (fun k hk e => hKo3 k e.1 hk);have szB := Nat.le_trans szB ag_20.size;have hb_5 := hb_5.step ag_20 (fun e => d_o2_5 _ e.1 rfl)
      obtain ⟨a_20, c_20, rfl, k_20⟩ := o20.form
      refine RL.stS sh43 rfl rfl rfl q7 (fun w7 z7 q7 a7 => ?_);have S := S.upd a7 ge7;have q6 := q6.upd a7 n67;have q8 := q8.upd a7 n87;have hF := hF.updD a7 dC;have hI := hI.updD a7 hK7;have szB := Nat.le_trans szB a7.size;have hb_5 := hb_5.upd a7 n7__5.symm;have o20 := o20.updD a7 d_o20_b7
      have q7 : Has w7 b7 ([.slice a_20 ((O ++ [x.v]).map fun x => [i6 x]).length c_20]) _ := q7
      refine RL.nil (RC.back (RC.region rfl ?_));refine RL.eS (.load1 sh183 rfl (q8.cell rfl)) ?_;refine RL.eS (.field0 fo140_5 rfl) ?_;refine RL.eS (.indexArr ar138 rfl rfl (by omega)) ?_;refine RL.eS (.load1 sh31 rfl (hb_5.cell rfl)) ?_;refine RL.callv rfl rfl (us := []) (cs := [.pointer (some ⟨b6, 0, none⟩), .pointer (some ⟨b8, 0, none⟩), .pointer (some ⟨b7, 0, none⟩)]) ok98 (ih2 (O ++ [x.v]) a_20 c_20 K I w7 hk1 (by simp only [List.length_append, List.length_singleton]; omega) ⟨q6, q8, q7, hF, o20, szB, S⟩ hI hK7 dd_o20_hI) rfl rfl ?_;rintro _ w8 ⟨a4, c4, hs4, hI4, hKo4⟩;refine RL.nil ?_
      refine fun a ka => ⟨ka.defers, _, run_results (rs := []) (vs := []) ka rfl trivial, ?_⟩
      rw [show out ++ (L ++ x.v :: R) = O ++ [x.v] ++ R by rw [hO]; simp]
      exact ⟨a4, c4, hs4, hI4, hKo4⟩
theorem c_dRowO (A : Ar) (na fa : Option Addr) (nc fc : Nat) (hnc : A.nodes.length ≤ nc) (hfc : A.free.length ≤ fc) (r : Int) (hr : U64 r) (w : World) (hA : ArR w na fa A) :
  FC Tryz.prog 44 [arV na fa nc fc A, .int .u64 r] w (fun v w' => Sub w w' ∧ ∃ a c V e, v = .tuple #[.slice a (V.map fun x => [i6 x]).length c, .int .i64 e] ∧ V.length ≤ c ∧ Ows w.heap.size w' 2 1 (.slice a (V.map fun x => [i6 x]).length c) (V.map fun x => [i6 x]) ∧ (¬ isRow A r → V = [] ∧ e = 1) ∧ ∀ V' P, isRow A r → IsR A r V' P → V = V' ∧ e = 0) := by
 have hN := hA.nodes
 have hFr := hA.free
 have hG : Ft (· < w.heap.size) (fun u => ArR u na fa A) w := Ft.of_sub fun u s => hA.sub s
 obtain ⟨V, P, hm⟩ := rowsL A r
 refine FC.intro Tryz.func44 rfl Tryz.ntmps44 rfl ?_
 have S := Sub.refl w
 refine RC.seq (RC.region rfl ?_);refine RL.box rfl rfl rfl (fun b_2 w_2 e_2 z_2 hb_2 s_2 => ?_);have S := S.trans s_2
 have hb_2 : Has w_2 b_2 ([.slice na A.nodes.length nc, .slice fa A.free.length fc]) _ := hb_2
 refine RL.asS rfl ?_;refine RL.asS rfl ?_;refine RL.nil (RC.back (RC.seq (RC.seq (RC.region rfl ?_))));refine RL.eS (.loadR ([.slice na A.nodes.length nc, .slice fa A.free.length fc]) sh26 rfl hb_2.row rfl) ?_;refine RL.mvS rfl ?_;refine RL.call rfl ok97 (c_dRight A na fa nc fc hnc hfc r hr w_2 (hA.sub S)) rfl rfl ?_;rintro _ w1 ⟨rfl, s2⟩;have S := S.trans s2;have hb_2 := hb_2.sub s2;refine RL.eS (.not rfl) ?_;refine RL.nil (RC.back ?_);refine RC.cond rfl (fun h3 => ?_) (fun h3 => ?_)
 ·
  have hno : ¬ isRow A r := (fun h => by have h2 := h3; rw [isRowB_yes h] at h2; cases h2)
  refine RC.seq (RC.region rfl ?_);refine RL.asS rfl ?_;refine RL.asS rfl ?_;refine RL.nil (RC.back ?_);refine RC.done (rs := [.tmp 4, .tmp 5]) (vs := [_, _]) rfl rfl ⟨rfl, rfl, trivial⟩ ?_
  exact ⟨S, none, 0, [], 1, rfl, Nat.le_refl _, Ows.nil _ _ _ _, fun _ => ⟨rfl, rfl⟩, fun V' P' h => absurd h hno⟩
 ·
  have hmap : isRow A r := (isRowB_iff A r).1 (by simpa using h3)
  have hV := hm hmap
  have hVl := isRow_len hmap hV
  refine RC.skip (RC.back (RC.seq (RC.region rfl ?_)));refine RL.eS (.loadR ([.slice na A.nodes.length nc, .slice fa A.free.length fc]) sh26 rfl hb_2.row rfl) ?_;refine RL.eS (.buildS ze182 pl182 rfl rfl) ?_;refine RL.box rfl rfl rfl (fun b_15 w_15 e_15 z_15 hb_15 s_15 => ?_);have ge_15 := S.le e_15;have S := S.trans s_15
  have hb_15 : Has w_15 b_15 (wvC na fa nc fc A 0) 182 := hb_15
  have hG1 := hG.sub S
  have hF := FoG.ft (s := (A, 0)) hb_15 hnc hfc hG1 (fun e => by have := ge_15; omega)
  refine RL.alloc ze180 rfl rfl (fun b_6 w_6 e_6 z_6 hb_6 s_6 => ?_);have ge_6 := S.le e_6;have d_hF_b_6 := hF.neNew e_6;have S := S.trans s_6;have hF := hF.sub s_6;refine RL.stS sh180 rfl rfl rfl hb_6 (fun w4 z4 hb_6 a4 => ?_);have S := S.upd a4 ge_6;have hF := hF.updD a4 d_hF_b_6;refine RL.nil (RC.back (RC.seq (RC.region rfl ?_)));refine RL.alloc ze43 rfl rfl (fun b_7 w_7 e_7 z_7 hb_7 s_7 => ?_);have ge_7 := S.le e_7;have n_6__7 := hb_6.ne e_7;have d_hF_b_7 := hF.neNew e_7;have S := S.trans s_7;have hF := hF.sub s_7;have hb_6 := hb_6.sub s_7
  have dF7 : ∀ k, (k = b_15 ∨ k < w.heap.size) → k ≠ b_7 := d_hF_b_7
  refine RL.nil (RC.back (RC.seq (RC.region rfl ?_)));refine RL.alloc ze183 rfl rfl (fun b_8 w_8 e_8 z_8 hb_8 s_8 => ?_);have ge_8 := S.le e_8;have n_6__8 := hb_6.ne e_8;have n_7__8 := hb_7.ne e_8;have d_hF_b_8 := hF.neNew e_8;have S := S.trans s_8;have hF := hF.sub s_8;have hb_6 := hb_6.sub s_8;have hb_7 := hb_7.sub s_8;refine RL.nil (RC.back (RC.seq (RC.region rfl ?_)));refine RL.eS (.func (xs := []) (ys := [_, _, _]) rfl rfl) ?_;refine RL.stS sh183 rfl rfl rfl hb_8 (fun w5 z5 hb_8 a5 => ?_);have S := S.upd a5 ge_8;have hF := hF.updD a5 d_hF_b_8;have hb_6 := hb_6.upd a5 n_6__8;have hb_7 := hb_7.upd a5 n_7__8
  have hb_8 : Has w5 b_8 ([rowFn b_6 b_8 b_7]) _ := hb_8
  obtain ⟨E, hE⟩ : ∃ E, E = w5.heap.size := ⟨_, rfl⟩
  have l6 := hb_6.lt
  have l7 := hb_7.lt
  have l8 := hb_8.lt
  have lF := hF.lt
  have szS := S.size
  rw [← hE] at l6 l7 l8 lF szS
  have hB : RWok w E b_6 b_8 b_7 (fun k => k = b_15 ∨ k < w.heap.size) := ⟨l6, l8, l7, n_6__7, n_7__8.symm, dF7, lF, ge_7, szS⟩
  refine RL.nil (RC.back (RC.seq (RC.region rfl ?_)));refine RL.eS (.load1 sh183 rfl (hb_8.cell rfl)) ?_;refine RL.mvS rfl ?_;refine RL.callv rfl rfl (us := []) (cs := [.pointer (some ⟨b_6, 0, none⟩), .pointer (some ⟨b_8, 0, none⟩), .pointer (some ⟨b_7, 0, none⟩)]) ok98 (c_drow1 w E b_6 b_8 b_7 b_15 _ hB A hV [] none 0 (fun _ => False) (fun _ => True) w5 hr (by simp only [List.length_nil]; omega) ⟨hb_6, hb_8, hb_7, hF, Ows.nil _ _ _ _, by rw [hE]; exact Nat.le_refl _, S⟩ ⟨fun _ h => h.elim, fun _ _ => trivial⟩ (fun _ h => h.elim) (fun _ _ h => h.elim)) rfl rfl ?_;rintro _ w6 ⟨a2, c2, ⟨q6, q8, hb_7, hF, o, szB, S⟩, _, _⟩
  rw [List.nil_append] at hb_7 o
  refine RL.nil (RC.back (RC.seq (RC.region rfl ?_)));refine RL.eS (.load1 sh43 rfl (hb_7.cell rfl)) ?_;refine RL.asS rfl ?_;refine RL.asS rfl ?_;refine RL.nil (RC.back ?_);refine RC.done (rs := [.tmp 4, .tmp 5]) (vs := [_, _]) rfl rfl ⟨rfl, rfl, trivial⟩ ?_
  have hoc : V.length ≤ c2 := (by obtain ⟨_, c', e, h⟩ := o.form; cases e; rw [List.length_map] at h; exact h)
  exact ⟨S, a2, c2, V, 0, rfl, hoc, o.low szS, fun h => absurd hmap h, fun V' P' _ hV' => ⟨(hV'.unique hV).1, rfl⟩⟩
theorem c_wAllO (A : Ar) (na fa : Option Addr) (nc fc : Nat) (hnc : A.nodes.length ≤ nc) (hfc : A.free.length ≤ fc) (r : Int) (hr : U64 r) (w : World) (hA : ArR w na fa A) :
  FC Tryz.prog 15 [arV na fa nc fc A, .int .u64 r] w (fun v w' => Sub w w' ∧ ∃ a c rows e, v = .tuple #[.slice a rows.length c, .int .i64 e] ∧ rows.length ≤ c ∧ Ows w.heap.size w' 51 2 (.slice a rows.length c) (rows.map It.cells) ∧ (¬ isTab A r → rows = [] ∧ e = 1) ∧ (isTab A r → rows = rowH A r ∧ e = 0)) := by
 have hNd := hA.nodes
 have hFr := hA.free
 refine FC.intro Tryz.func15 rfl Tryz.ntmps15 rfl ?_
 have S := Sub.refl w
 refine RC.seq (RC.region rfl ?_);refine RL.box rfl rfl rfl (fun b_2 w_2 e_2 z_2 hb_2 s_2 => ?_);have S := S.trans s_2
 have hb_2 : Has w_2 b_2 ([.slice na A.nodes.length nc, .slice fa A.free.length fc]) _ := hb_2
 refine RL.asS rfl ?_;refine RL.asS rfl ?_;refine RL.nil (RC.back (RC.seq (RC.seq (RC.region rfl ?_))));refine RL.eS (.loadR ([.slice na A.nodes.length nc, .slice fa A.free.length fc]) sh26 rfl hb_2.row rfl) ?_;refine RL.mvS rfl ?_;refine RL.call rfl ok51 (c_hRight A na fa nc fc hnc hfc r hr w_2 (hA.sub S)) rfl rfl ?_;rintro _ w1 ⟨rfl, s2⟩;have S := S.trans s2;have hb_2 := hb_2.sub s2;refine RL.eS (.not rfl) ?_;refine RL.nil (RC.back ?_);refine RC.cond rfl (fun h3 => ?_) (fun h3 => ?_)
 ·
  have hno : ¬ isTab A r := (fun h => by have h2 := h3; rw [isTabB_yes h] at h2; cases h2)
  refine RC.seq (RC.region rfl ?_);refine RL.asS rfl ?_;refine RL.asS rfl ?_;refine RL.nil (RC.back ?_);refine RC.done (rs := [.tmp 4, .tmp 5]) (vs := [_, _]) rfl rfl ⟨rfl, rfl, trivial⟩ ?_
  exact ⟨S, none, 0, [], 1, rfl, Nat.le_refl _, Ows.nil _ _ _ _, fun _ => ⟨rfl, rfl⟩, fun h => absurd h hno⟩
 ·
  have hyes : isTab A r := (isTabB_iff A r).1 (by simpa using h3)
  obtain ⟨_, L, hT, hap, hl⟩ := id hyes
  refine RC.skip (RC.back (RC.seq (RC.region rfl ?_)));refine RL.eS (.loadR ([.slice na A.nodes.length nc, .slice fa A.free.length fc]) sh26 rfl hb_2.row rfl) ?_;refine RL.mvS rfl ?_;refine RL.call rfl ok53 (c_wleaves A na fa nc fc r w1) rfl rfl ?_;rintro _ w4 ⟨bA, bR, rfl, hbA, hbR, s5⟩;have S := S.trans s5;refine RL.call rfl ok52 (c_collect A na fa nc fc r hr L hT hl bA bR w4 (hA.sub S) hbA hbR) rfl rfl ?_;rintro _ w6 ⟨s7, a1, c1, rfl, o⟩
  have o := o.low S.size
  have S := S.trans s7;refine RL.asS rfl ?_;refine RL.asS rfl ?_;refine RL.nil (RC.back ?_);refine RC.done (rs := [.tmp 4, .tmp 5]) (vs := [_, _]) rfl rfl ⟨rfl, rfl, trivial⟩ ?_
  exact ⟨S, a1, c1, rowH A r, 0, by rw [List.length_map]; rfl, (by obtain ⟨_, c', e, h⟩ := o.form; cases e; rw [List.length_map] at h; exact h), (by rw [List.length_map] at o; exact o), fun h => absurd hyes h, fun _ => ⟨rfl, rfl⟩⟩
def sortIt_ren : Go.Shelf.Ren := ⟨fun | 6 => 47 | 15 => 106 | 14 => 105 | 28 => 180 | 29 => 181 | 20 => 172 | 21 => 173 | 22 => 174 | 23 => 175 | 24 => 176 | 25 => 177 | 26 => 178 | 27 => 179 | 46 => 233 | 47 => 234 | 48 => 235 | 49 => 236 | 50 => 237 | 57 => 275 | n => n, fun | 22 => 42 | 24 => 51 | 25 => 121 | 3 => 3 | 39 => 190 | 0 => 0 | 53 => 263 | 55 => 30 | 4 => 4 | 46 => 257 | 45 => 256 | 50 => 151 | 5 => 5 | 9 => 9 | 66 => 311 | 70 => 315 | 76 => 350 | 77 => 351 | n => n, fun n => n⟩
theorem sortIt : SlLaysF0.n6 Tryz.prog sortIt_ren := {
  mixed := by kernel_rfl,
  f6 := ⟨Tryz.f47.name, by decide, Tryz.func47.trans (congrArg some (by kernel_rfl))⟩,
  f14 := ⟨Tryz.f105.name, by decide, Tryz.func105.trans (congrArg some (by kernel_rfl))⟩,
  f15 := Tryz.func106.trans (congrArg some (by kernel_rfl)),
  f20 := ⟨Tryz.f172.name, by decide, Tryz.func172.trans (congrArg some (by kernel_rfl))⟩,
  f21 := ⟨Tryz.f173.name, by decide, Tryz.func173.trans (congrArg some (by kernel_rfl))⟩,
  f22 := ⟨Tryz.f174.name, by decide, Tryz.func174.trans (congrArg some (by kernel_rfl))⟩,
  f23 := ⟨Tryz.f175.name, by decide, Tryz.func175.trans (congrArg some (by kernel_rfl))⟩,
  f24 := ⟨Tryz.f176.name, by decide, Tryz.func176.trans (congrArg some (by kernel_rfl))⟩,
  f25 := ⟨Tryz.f177.name, by decide, Tryz.func177.trans (congrArg some (by kernel_rfl))⟩,
  f26 := ⟨Tryz.f178.name, by decide, Tryz.func178.trans (congrArg some (by kernel_rfl))⟩,
  f27 := ⟨Tryz.f179.name, by decide, Tryz.func179.trans (congrArg some (by kernel_rfl))⟩,
  f28 := Tryz.func180.trans (congrArg some (by kernel_rfl)),
  f29 := Tryz.func181.trans (congrArg some (by kernel_rfl)),
  f46 := ⟨Tryz.f233.name, by decide, Tryz.func233.trans (congrArg some (by kernel_rfl))⟩,
  f47 := Tryz.func234.trans (congrArg some (by kernel_rfl)),
  f48 := Tryz.func235.trans (congrArg some (by kernel_rfl)),
  f49 := ⟨Tryz.f236.name, by decide, Tryz.func236.trans (congrArg some (by kernel_rfl))⟩,
  f50 := ⟨Tryz.f237.name, by decide, Tryz.func237.trans (congrArg some (by kernel_rfl))⟩,
  f57 := ⟨Tryz.f275.name, by decide, Tryz.func275.trans (congrArg some (by kernel_rfl))⟩,
  t0 := Tryz.underlying0,
  a0 := Tryz.isAgg0,
  z0 := Tryz.sizeOf0,
  v0 := Tryz.zeroValue0,
  t3 := Tryz.underlying3,
  a3 := Tryz.isAgg3,
  z3 := Tryz.sizeOf3,
  v3 := Tryz.zeroValue3,
  t4 := Tryz.underlying4,
  a4 := Tryz.isAgg4,
  z4 := Tryz.sizeOf4,
  v4 := Tryz.zeroValue4,
  t5 := Tryz.underlying5,
  a5 := Tryz.isAgg5,
  z5 := Tryz.sizeOf5,
  v5 := Tryz.zeroValue5,
  t9 := Tryz.underlying9,
  a9 := Tryz.isAgg9,
  z9 := Tryz.sizeOf9,
  v9 := Tryz.zeroValue9,
  t22 := Tryz.underlying42,
  a22 := Tryz.isAgg42,
  z22 := Tryz.sizeOf42,
  v22 := Tryz.zeroValue42,
  t25 := Tryz.underlying121,
  a25 := Tryz.isAgg121,
  z25 := Tryz.sizeOf121,
  v25 := Tryz.zeroValue121,
  t39 := Tryz.underlying190,
  a39 := Tryz.isAgg190,
  z39 := Tryz.sizeOf190,
  v39 := Tryz.zeroValue190,
  t45 := Tryz.underlying256,
  a45 := Tryz.isAgg256,
  z45 := Tryz.sizeOf256,
  v45 := Tryz.zeroValue256,
  t46 := Tryz.underlying257,
  a46 := Tryz.isAgg257,
  z46 := Tryz.sizeOf257,
  v46 := Tryz.zeroValue257,
  t50 := Tryz.underlying151,
  a50 := Tryz.isAgg151,
  z50 := Tryz.sizeOf151,
  v50 := Tryz.zeroValue151,
  t53 := Tryz.underlying263,
  a53 := Tryz.isAgg263,
  z53 := Tryz.sizeOf263,
  v53 := Tryz.zeroValue263,
  t55 := Tryz.underlying30,
  a55 := Tryz.isAgg30,
  z55 := Tryz.sizeOf30,
  v55 := Tryz.zeroValue30,
  t66 := Tryz.underlying311,
  a66 := Tryz.isAgg311,
  z66 := Tryz.sizeOf311,
  v66 := Tryz.zeroValue311,
  t70 := Tryz.underlying315,
  a70 := Tryz.isAgg315,
  z70 := Tryz.sizeOf315,
  v70 := Tryz.zeroValue315,
  t76 := Tryz.underlying350,
  a76 := Tryz.isAgg350,
  z76 := Tryz.sizeOf350,
  v76 := Tryz.zeroValue350,
  t77 := Tryz.underlying351,
  a77 := Tryz.isAgg351,
  z77 := Tryz.sizeOf351,
  v77 := Tryz.zeroValue351 }
def cmpI64_ren : Go.Shelf.Ren := ⟨fun | 5 => 49 | 7 => 107 | n => n, fun | 22 => 2 | 3 => 3 | 4 => 4 | n => n, fun n => n⟩
theorem cmpI64 : SlLaysC2.n5 Tryz.prog cmpI64_ren := {
  mixed := by kernel_rfl,
  f5 := ⟨Tryz.f49.name, by decide, Tryz.func49.trans (congrArg some (by kernel_rfl))⟩,
  f7 := ⟨Tryz.f107.name, by decide, Tryz.func107.trans (congrArg some (by kernel_rfl))⟩,
  t3 := Tryz.underlying3,
  a3 := Tryz.isAgg3,
  z3 := Tryz.sizeOf3,
  v3 := Tryz.zeroValue3,
  t4 := Tryz.underlying4,
  a4 := Tryz.isAgg4,
  z4 := Tryz.sizeOf4,
  v4 := Tryz.zeroValue4,
  t22 := Tryz.underlying2,
  a22 := Tryz.isAgg2,
  z22 := Tryz.sizeOf2,
  v22 := Tryz.zeroValue2 }
theorem c_sortNone (p : Option Addr) (cap : Nat) (fv : Value) (w : World) : FC Tryz.prog 47 [.slice p 0 cap, fv] w (Val (.tuple #[]) w) :=
  Calls.mono (AnyF.slices_SortFunc_none sortIt p cap fv w) fun e w' h => ⟨_, h.1, rfl, h.2 ▸ Sub.refl _⟩
theorem c_hold1 (x y : It) (W : World) : Calls Tryz.prog 48 #[.agg x.cells.toArray, .agg y.cells.toArray] W fun e w' => e = .returned (.int .i64 (Lib.compareInt x.k y.k)) ∧ ∃ q os', w' = Sort.grow (W.drewN q) os' := by
  have hcon := fun W' => AnyG.cmp_Compare_int cmpI64 x.k y.k W'
  change ∀ W', Calls Tryz.prog 49 _ _ _ at hcon
  generalize Lib.compareInt x.k y.k = r at hcon ⊢
  unfold It.cells
  go_enter Tryz.func48, Tryz.ntmps48
  go_wp2_with (go_at_call 49; refine (hcon _).mono ?_; rintro e w' ⟨rfl, rfl⟩)
  go_ret
  exact ⟨rfl, 0, _, by rw [Sort.alloc_eq_grow, Sort.alloc_eq_grow, Sort.grow_grow]; rfl⟩
theorem ltK (x y : It) : ltOf (fun x y : It => Lib.compareInt x.k y.k) x y = decide (x.k < y.k) := by
  unfold ltOf Lib.compareInt
  by_cases h1 : x.k < y.k
  · simp [h1]
  · by_cases h2 : y.k < x.k <;> simp [h1, h2]
theorem swoK : Sort.SWO (ltOf fun x y : It => Lib.compareInt x.k y.k) where
  irrefl x := by rw [ltK]; simp
  trans x y z h1 h2 := by rw [ltK] at *; simp at *; omega
  ntrans x y z h1 h2 := by rw [ltK] at *; simp at *; omega
instance inhIt : Inhabited It := ⟨⟨0, 0⟩⟩
theorem flatK_list (l : List It) : Sort.flatK It.cells 2 l.toArray = ((l.map It.cells).flatten).toArray := by
  have hl : ∀ r ∈ l.map It.cells, r.length = 2 := it_rows
  have hz : ((l.map It.cells).flatten).length = l.length * 2 := by rw [flat_len _ hl, List.length_map]
  apply Array.ext
  · rw [Sort.size_flatK]; simp [hz]
  · intro t h1 h2
    rw [Sort.size_flatK] at h1
    have h1' : t < l.length * 2 := by simpa using h1
    have g := Sort.get_flatK It.cells 2 l.toArray t h1
    have hi : t / 2 < l.length := by omega
    have hf := flat_get (l.map It.cells) hl (t / 2) (t % 2) (It.cells l[t / 2]) (by rw [List.getElem?_map, List.getElem?_eq_getElem hi]; rfl) (Nat.mod_lt _ (by decide))
    have et : t / 2 * 2 + t % 2 = t := by omega
    rw [et] at hf
    rw [getElem!_pos _ t (by rw [Sort.size_flatK]; exact h1)] at g
    rw [g]
    have e1 : l.toArray[t / 2]! = l[t / 2] := by rw [getElem!_pos _ _ (by simpa using hi)]; simp
    rw [e1, List.getElem_toArray]
    have h3 : ((l.map It.cells).flatten)[t]? = some ((l.map It.cells).flatten)[t] := List.getElem?_eq_getElem (by rw [hz]; exact h1')
    rw [h3] at hf
    have h4 : (It.cells l[t / 2])[t % 2]? = some (It.cells l[t / 2])[t % 2]! := by
      have : t % 2 < (It.cells l[t / 2]).length := Nat.mod_lt _ (by decide)
      rw [List.getElem?_eq_getElem this, getElem!_pos (It.cells l[t / 2]) (t % 2) this]
    rw [h4] at hf
    exact (Option.some.inj hf).symm
theorem holdsK_of {w : World} {b : Nat} {l : List It} {extra : List Value} {e : TypeId} (h : Has w b ((l.map It.cells).flatten ++ extra) e) : Sort.HoldsK It.cells 2 w b 0 l.toArray := by
  unfold Sort.HoldsK
  rw [flatK_list]
  intro j hj
  have hj' : j < ((l.map It.cells).flatten).length := by simpa using hj
  refine ⟨?_, h.free⟩
  rw [Nat.zero_add]
  refine h.cell ?_
  rw [List.getElem?_append_left hj', List.getElem?_eq_getElem hj', getElem!_pos _ j (by simpa using hj')]
  simp
theorem putCells_list (xs ys extra : List Value) (h : ys.length = xs.length) : Sort.putCells id 0 ys.toArray (xs ++ extra).toArray = (ys ++ extra).toArray := by
  apply Array.ext
  · simp [Sort.putCells, h]
  · intro t h1 h2
    simp only [Sort.putCells, Array.getElem_mapIdx, List.size_toArray, Nat.zero_add, Nat.sub_zero, Nat.zero_le, true_and, id]
    by_cases q : t < ys.length
    · rw [if_pos q, getElem!_pos _ _ (by simpa using q)]
      simp [List.getElem_append_left q]
    · rw [if_neg q]
      simp only [List.getElem_toArray]
      rw [List.getElem_append_right (by omega), List.getElem_append_right (by omega)]
      simp [h]
theorem sortW_has {w : World} {b n : Nat} {l l' : List It} {extra : List Value} {e : TypeId} {os : Array Obj} (hl : l'.length = l.length) (h : Has w b ((l.map It.cells).flatten ++ extra) e) :
    Has (sortWorldK It.cells 2 w b 0 n l'.toArray os) b ((l'.map It.cells).flatten ++ extra) e ∧ Agr (fun k => k = b) w (sortWorldK It.cells 2 w b 0 n l'.toArray os) := by
  have hlt := h.lt
  unfold sortWorldK Sort.putRowK
  rw [flatK_list]
  refine ⟨?_, rfl, rfl, rfl, ?_, fun k hk hn => ?_⟩
  · unfold Has at *
    rw [Sort.heap_grow_old _ _ (by simpa [Sort.putRow, Sort.mapBlock, Sort.ahead] using hlt)]
    simp only [Sort.putRow, Sort.mapBlock, Sort.ahead, Array.getElem?_modify, if_pos, h, Option.map_some, Sort.onCells]
    rw [putCells_list _ _ _ (by rw [flat_len _ it_rows, flat_len _ it_rows, List.length_map, List.length_map, hl])]
  · simp [Sort.grow, Sort.putRow, Sort.mapBlock, Sort.ahead]
  · rw [Sort.heap_grow_old _ _ (by simpa [Sort.putRow, Sort.mapBlock, Sort.ahead] using hk)]
    simp only [Sort.putRow, Sort.mapBlock, Sort.ahead, Array.getElem?_modify]
    rw [if_neg (fun e => hn e.symm)]
def kSrt (l : List It) : Prop := l.Pairwise fun x y => ¬ y.k < x.k
theorem c_sortK (l : List It) (hl : l.length ≤ 100000) (a : Option Addr) (c base : Nat) (w : World) (o : Ows base w 51 2 (.slice a l.length c) (l.map It.cells)) :
    FC Tryz.prog 47 [.slice a l.length c, .func (.func 48) #[] #[]] w (fun v w' => v = .tuple #[] ∧ Agr (fun k => ob (.slice a l.length c) = some k) w w' ∧ ∃ l', l'.Perm l ∧ kSrt l' ∧ Ows base w' 51 2 (.slice a l.length c) (l'.map It.cells)) := by
  cases l with
  | nil => exact (c_sortNone a c _ w).mono fun v w' h => ⟨h.1, h.2.agr, [], .nil, List.Pairwise.nil, o.step (N := fun _ => False) h.2.agr (fun _ _ e => e)⟩
  | cons x0 l0 =>
    obtain ⟨l, hx⟩ : ∃ l, l = x0 :: l0 := ⟨_, rfl⟩
    rw [← hx] at hl o ⊢
    have hpos : 0 < (l.map It.cells).length := by rw [hx]; simp
    obtain ⟨b, cap, extra, hv, hb, hcl, hcm, hh, hxl⟩ := o.has hpos
    rw [List.length_map] at hv hcl
    simp only [Value.slice.injEq] at hv
    obtain ⟨rfl, _, rfl⟩ := hv
    have eg : ∀ args w, (callFunc 48 args).run Tryz.prog w = .ok (.enter 48 args) w := enters_of Tryz.func48 (by kernel_rfl) rfl
    have h := AnyQ.slices_SortFunc sortIt 2 Tryz.isAgg51 Tryz.sizeOf51 It.cells (fun _ => rfl) (fun x v hv => by simp [It.cells] at hv; rcases hv with rfl | rfl <;> rfl) (fun x y => Lib.compareInt x.k y.k) swoK 48 #[] b 0 c l.toArray w eg (fun m os dk hs x y => c_hold1 x y _) (holdsK_of hh) hh.lt (by simp; omega)
    change Calls Tryz.prog 47 _ _ _ at h
    rw [show l.toArray.size = l.length by simp] at h
    refine Calls.mono h ?_
    rintro e w' ⟨rfl, d', n, os, hp, hs, rfl⟩
    obtain ⟨p1, _, p3⟩ := hp
    have hp4 : d'.toList.Perm l := by
      have e1 : d'.extract 0 l.length = d' := by rw [show l.length = d'.size by rw [p1]; simp]; simp
      have e2 : l.toArray.extract 0 l.length = l.toArray := by simp
      rw [e1, e2] at p3
      simpa using p3
    have hdl : d'.toList.length = l.length := hp4.length_eq
    obtain ⟨q1, q2⟩ := sortW_has (w := w) (n := n) (os := os) hdl hh
    have ed : d'.toList.toArray = d' := by simp
    rw [ed] at q1 q2
    refine ⟨_, rfl, rfl, q2.mono fun k _ e => by rw [e]; rfl, d'.toList, hp4, ?_, ?_⟩
    · rw [kSrt, List.pairwise_iff_getElem]
      intro i j hi hj hij
      have hi' : i < d'.size := by simpa using hi
      have hj' : j < d'.size := by simpa using hj
      have g := hs i j (Nat.zero_le _) hij (by rw [← hdl]; exact hj)
      rw [ltK, getElem!_pos d' i hi', getElem!_pos d' j hj'] at g
      simpa using g
    · have := Ows.of_has (rows := d'.toList.map It.cells) (base := base) (cap := c) (sz := 2) q1 it_rows hb (by rw [List.length_map, hdl]; exact hcl) hcm (by
        rw [List.length_append, flat_len _ it_rows, List.length_map, hdl]
        rw [List.length_append, flat_len _ it_rows, List.length_map] at hxl
        exact hxl)
      rw [List.length_map, hdl] at this
      exact this
section
variable {P : Program} {n : Cx} {F : List (Nat × Value)} {w : World} {p : Post} {ops : Array Oper} {rest : List Oper} {d : Option Tmp} {t : TypeId} {pos : String} {af : Array Edge} {g : Option (Nat × Bool)}
theorem _root_.Go.XL.RL.appendZ0 {ty tn x y k e s by_ z kq kn} (ht : sliceOf P ty = some (e, s, by_)) (htn : P.underlying tn = some (.int kn)) (hz : zeroOf P e = some z) (hzs : z.cells.size = s) (hs' : Nat.blt 0 s = true) (hy : XL.ev F y = some (.slice none 0 0)) (hx : XL.ev F x = some (.int kq (k : Nat))) (hk : 0 < k)
    (hlen : k * by_ ≤ 140737488355328) (hlen' : k ≤ 140737488355328) (hg : gsat ops F g = some true) (hd : inB d n = true)
    (h : ∀ b' w' cap ex, b' = w.heap.size → k ≤ cap → cap ≤ maxLen → Has w' b' (List.replicate k z.cells.toList ++ List.replicate ex z.cells.toList).flatten e → cap = k + ex → Sub w w' → RL P n ops rest (upd F d (.slice (some ⟨b', 0, none⟩) k cap)) w' p) : RL P n ops (⟨d, .call ⟨.builtin .append, #[y, x], #[ty, tn]⟩, t, pos, af, g⟩ :: rest) F w p := by
  have hs2 : 0 < s := by simpa using hs'
  obtain ⟨h1, i, h2, h3, h4⟩ := sliceOf_spec ht
  obtain ⟨i', hi', hzz⟩ := zeroOf_spec hz
  rw [h2] at hi'; cases hi'
  have hold : (Builtin.firstCells i.size 0 (.slice none 0 0)).run P w.drew = .ok ([] : List Value).toArray w.drew := by
    rw [h3]
    exact firstCells_sl (l := []) hs2 (Sl.nil _ _ _) (fun r hr => by cases hr) 0 (Nat.zero_le _)
  have hge := grownCap_ge w (0 + k) 0 e
  have hcm := grownCap_le_maxLen w (0 + k) 0 e (Nat.le_trans (show 0 + k ≤ 140737488355328 by omega) (by decide))
  have hr := Go.Lib.run_append_grow_zeros (P := P) w ty tn t e i z kq kn h1 htn h2 hzz none 0 0 [] hold k hk (by omega) (by omega) (by omega) (by rw [h4]; omega) (growslice_fits (by omega) (by rw [h4, Nat.zero_add]; exact hlen))
  have hzc : ∀ m, Builtin.zeroCells z.cells m = (List.replicate m z.cells.toList).flatten.toArray := fun m => by
    unfold Builtin.zeroCells
    exact zeros_list z.cells (by omega) m
  rw [hzc, hzc, Nat.zero_add] at hr
  rw [Nat.zero_add] at hge hcm
  refine RL.on hg hd (fun ρ hρ => ?_) (h w.heap.size (w.drew.alloc (.cells (([] : List Value).toArray ++ (List.replicate k z.cells.toList).flatten.toArray ++ (List.replicate (grownCap w k 0 e - k) z.cells.toList).flatten.toArray) e)) (grownCap w k 0 e) (grownCap w k 0 e - k) rfl hge hcm ?_ (by omega) ⟨rfl, rfl, rfl, by simp, fun k hk => heap_alloc_old' w.drew _ hk⟩)
  · simp only [execOp, resolve, hρ y _ hy, hρ x _ hx, bind, Sem.bind, pure, invoke, builtin, List.map_toArray, List.map_cons, List.map_nil]
    have := run_bind (P := P) (Builtin.append_ #[ty, tn] t #[.slice none 0 0, .int kq (k : Nat)]) (fun v => (Sem.pure (Next.value v) : Sem Next)) w
    rw [hr] at this
    exact this
  · have := heap_alloc_new w.drew (.cells (([] : List Value).toArray ++ (List.replicate k z.cells.toList).flatten.toArray ++ (List.replicate (grownCap w k 0 e - k) z.cells.toList).flatten.toArray) e)
    unfold Has
    simp only [List.flatten_append]
    simpa using this
end
theorem zz_len (k j : Nat) : (List.replicate k [Value.int .i64 0, .int .i64 0] ++ List.replicate j [Value.int .i64 0, .int .i64 0]).flatten.length = (k + j) * 2 := by
  rw [flat_len (sz := 2) _ (fun r hr => (List.mem_append.1 hr).elim (fun h => by rw [(List.mem_replicate.1 h).2]; rfl) (fun h => by rw [(List.mem_replicate.1 h).2]; rfl)), List.length_append, List.length_replicate, List.length_replicate]
theorem c_grow0 (k : Nat) (hk : k ≤ 10000) (w : World) : FC Tryz.prog 108 [.slice none 0 0, .int .i64 (k : Int)] w (fun v w' => Sub w w' ∧ ∃ a c, v = .slice a 0 c ∧ Ows w.heap.size w' 51 2 (.slice a 0 c) []) := by
 refine FC.intro Tryz.func108 rfl Tryz.ntmps108 rfl ?_
 have S := Sub.refl w
 refine RC.seq (RC.region rfl ?_);refine RL.asS rfl ?_;refine RL.nil (RC.back (RC.seq (RC.seq (RC.region rfl ?_))));refine RL.mvS rfl ?_;refine RL.eS (.bin rfl rfl rfl) ?_;refine RL.nil (RC.back ?_);refine RC.cond_dec rfl (fun h1 => ?_) (fun h1 => ?_)
 ·
  exact absurd h1 (by omega)
 ·
  refine RC.skip (RC.back (RC.seq (RC.seq (RC.region rfl ?_))));refine RL.mvS rfl ?_;refine RL.mvS rfl ?_;refine RL.eS (.cap sl42 rfl) ?_;refine RL.mvS rfl ?_;refine RL.eS (.len sl42 rfl) ?_;refine RL.eS (.as (.bin rfl rfl rfl) (wi64 (y := (0 : Int)) (by rfl) (by omega))) ?_;refine RL.eS (.as (.bin rfl rfl rfl) (wi64 (y := (k : Int)) (by omega) (by omega))) ?_;refine RL.asS rfl ?_;refine RL.nil (RC.back (RC.seq (RC.region rfl ?_)));refine RL.mvS rfl ?_;refine RL.eS (.bin rfl rfl rfl) ?_;refine RL.nil (RC.back ?_);refine RC.cond_dec rfl (fun h2 => ?_) (fun h2 => ?_)
  ·
   have hk0 : 0 < k := (by omega)
   refine RC.region rfl ?_;refine RL.mvS rfl ?_;refine RL.mvS rfl ?_;refine RL.eS (.cap sl42 rfl) ?_;refine RL.eS (.sliceHi sl42 rfl rfl (by omega)) ?_;refine RL.mvS rfl ?_;refine RL.appendZ0 (k := k) sl42 Tryz.underlying3 ze51 rfl rfl rfl rfl hk0 (by omega) (by omega) rfl rfl (fun b_9 w3 cap9 ex9 e_9 hc9 hm9 hb_9 hcx9 s9 => ?_);have S := S.trans s9;refine RL.mvS rfl ?_;refine RL.eS (.len sl42 rfl) ?_;refine RL.eS (.sliceHi sl42 rfl rfl (by omega)) ?_;refine RL.asS rfl ?_;refine RL.nil (RC.back (RC.seq (RC.region rfl ?_)));refine RL.mvS rfl ?_;refine RL.asS rfl ?_;refine RL.nil (RC.back ?_);refine RC.d1 4 rfl rfl rfl ?_
   exact ⟨S, _, _, rfl, Ows.of_has (rows := []) (extra := (List.replicate k [Value.int .i64 0, .int .i64 0] ++ List.replicate ex9 [Value.int .i64 0, .int .i64 0]).flatten) hb_9 (fun r hr => by cases hr) (by omega) (Nat.zero_le _) hm9 (by rw [List.flatten_nil, List.nil_append, zz_len, hcx9])⟩
  ·
   refine RC.skip (RC.back (RC.seq (RC.region rfl ?_)));refine RL.mvS rfl ?_;refine RL.asS rfl ?_;refine RL.nil (RC.back ?_);refine RC.d1 4 rfl rfl rfl ?_
   exact ⟨S, none, 0, rfl, Ows.nil _ _ _ _⟩
structure Tri where
  l : List It
  a : Option Addr
  c : Nat
def Tri.v (t : Tri) : Value := .slice t.a t.l.length t.c
def catT (ts : List Tri) : List It := (ts.map (·.l)).flatten
theorem catT_succ {ts : List Tri} {i : Nat} {t : Tri} (h : ts[i]? = some t) : catT (ts.take (i + 1)) = catT (ts.take i) ++ t.l := by
  unfold catT
  rw [List.take_add_one, h]
  simp
theorem catT_len (ts : List Tri) (hs : ∀ t ∈ ts, t.l.length ≤ 1000) : (catT ts).length ≤ ts.length * 1000 := by
  induction ts with
  | nil => simp [catT]
  | cons t ts ih =>
    have h1 := hs t (by simp)
    have h2 := ih (fun t ht => hs t (by simp [ht]))
    unfold catT at h2 ⊢
    simp only [List.map_cons, List.flatten_cons, List.length_append, List.length_cons]
    omega
theorem c_concat (ts : List Tri) (hn : ts.length ≤ 9) (hs : ∀ t ∈ ts, t.l.length ≤ 1000) (pa : Option Addr) (pc : Nat) (w : World) (hP : Sl w pa 1 (ts.map fun t => [t.v])) (hT : ∀ t ∈ ts, Sl w t.a 2 (t.l.map It.cells)) :
  FC Tryz.prog 50 [.slice pa ts.length pc] w (fun v w' => Sub w w' ∧ ∃ a c, v = .slice a (catT ts).length c ∧ Sl w' a 2 ((catT ts).map It.cells)) := by
 have hlen : ∀ i, (catT (ts.take i)).length ≤ 9000 := fun i => Nat.le_trans (catT_len _ (fun t ht => hs t (List.mem_of_mem_take ht))) (by rw [List.length_take]; omega)
 refine FC.intro Tryz.func50 rfl Tryz.ntmps50 rfl ?_
 have S := Sub.refl w
 refine RC.seq (RC.region rfl ?_);refine RL.asS rfl ?_;refine RL.nil (RC.back (RC.seq (RC.region rfl ?_)));refine RL.asS rfl ?_;refine RL.nil (RC.back (RC.seq (RC.seq (RC.region rfl ?_))));refine RL.mvS rfl ?_;refine RL.eS (.len sl191 rfl) ?_;refine RL.mvS rfl ?_;refine RL.nil (RC.back (RC.block ?_));refine RC.loop (α := Nat) (fun i => [(0, .slice pa ts.length pc), (3, .int .i64 ((catT (ts.take i)).length : Int)), (9, .slice pa ts.length pc), (10, .int .i64 (ts.length : Int)), (11, .int .i64 (i : Int))]) (fun i w1 => i ≤ ts.length ∧ Sub w w1) (fun i => ts.length - i) 0 (keep_of (by repeat (first | exact trivial | refine And.intro rfl ?_))) (⟨Nat.zero_le _, S⟩) (fun i w1 hJ => ?_)
 obtain ⟨hi, S⟩ := hJ; have hli := hlen i; have hli1 := hlen (i + 1)
 refine RC.seq (RC.region rfl ?_);refine RL.eS (.bin rfl rfl rfl) ?_;refine RL.nil (RC.back (RC.seq ?_));refine RC.cond_dec rfl (fun h2 => ?_) (fun h2 => ?_)
 ·
  obtain ⟨t, ht⟩ := getSome (l := ts) (i := i) (by omega)
  refine RC.skip (RC.back (RC.seq (RC.block (RC.seq (RC.region rfl ?_)))));refine RL.eS (.indexS sl191 rfl rfl (by omega) (hP.is (i := 0) (by simp only [List.length_map, List.length_cons, List.length_nil]; omega))) ?_;refine RL.eS (.as (v' := .slice t.a t.l.length t.c) (.load1 sh42 rfl ((hP.sub S).one (enc := Tri.v) (i := i) ht)) (by rfl)) ?_;refine RL.asS rfl ?_;refine RL.nil (RC.back (RC.seq (RC.region rfl ?_)));refine RL.mvS rfl ?_;refine RL.mvS rfl ?_;refine RL.eS (.len sl42 rfl) ?_;refine RL.eS (.as (.bin rfl rfl rfl) (wi64 (y := ((catT (ts.take (i + 1))).length : Int)) (by rw [catT_succ ht, List.length_append]; omega) (by omega))) ?_;refine RL.asS rfl ?_;refine RL.nil (RC.back (RC.seq (RC.region rfl ?_)));refine RL.mvS rfl ?_;refine RL.eS (.bin rfl rfl rfl) ?_;refine RL.nil (RC.back ?_);refine RC.cond_dec rfl (fun h3 => ?_) (fun h3 => ?_)
  ·
   exact absurd h3 (by omega)
  ·
   refine RC.skip (RC.back (RC.region rfl ?_));refine RL.eS (.as (.bin rfl rfl rfl) (wi64 (y := ((i + 1 : Nat) : Int)) (by omega) (by omega))) ?_;refine RL.mvS rfl ?_
   exact RL.nil (fun a ka => ⟨i + 1, ⟨by omega, S⟩, by omega, ka.keep (keep_of (by repeat (first | exact trivial | refine And.intro rfl ?_)))⟩)
 ·
  obtain rfl : i = ts.length := (by omega)
  rw [List.take_length] at hli
  refine RC.exit rfl (RC.back (RC.seq (RC.region rfl ?_)));refine RL.eS (.as (v' := .int .i64 ((catT ts).length : Int)) (.move rfl) (by rw [List.take_length])) ?_;refine RL.call rfl ok108 (c_grow0 (catT ts).length (by omega) w1) rfl rfl ?_;rintro _ w4 ⟨s5, a0, c0, rfl, o⟩
  have o := o.low S.size
  have S := S.trans s5;refine RL.asS rfl ?_;refine RL.nil (RC.back (RC.seq (RC.seq (RC.region rfl ?_))));refine RL.mvS rfl ?_;refine RL.eS (.len sl191 rfl) ?_;refine RL.mvS rfl ?_;refine RL.nil (RC.back (RC.block ?_));refine RC.loop (α := Nat × Option Addr × Nat) (fun x => [(6, .slice x.2.1 ((catT (ts.take x.1)).map It.cells).length x.2.2), (25, .slice pa ts.length pc), (26, .int .i64 (ts.length : Int)), (27, .int .i64 (x.1 : Int))]) (fun x w6 => x.1 ≤ ts.length ∧ Ows w.heap.size w6 51 2 (.slice x.2.1 ((catT (ts.take x.1)).map It.cells).length x.2.2) ((catT (ts.take x.1)).map It.cells) ∧ Sub w w6) (fun x => ts.length - x.1) (0, a0, c0) (keep_of (by repeat (first | exact trivial | refine And.intro rfl ?_))) (⟨Nat.zero_le _, o, S⟩) (fun x w6 hJ => ?_)
  obtain ⟨i, a, c⟩ := x; obtain ⟨hi, o, S⟩ := hJ; simp only [] at hi o; have hli := hlen i; have hli1 := hlen (i + 1); have hlm : ((catT (ts.take i)).map It.cells).length ≤ 9000 := (by rw [List.length_map]; exact hli)
  refine RC.seq (RC.region rfl ?_);refine RL.eS (.bin rfl rfl rfl) ?_;refine RL.nil (RC.back (RC.seq ?_));refine RC.cond_dec rfl (fun h7 => ?_) (fun h7 => ?_)
  ·
   obtain ⟨t, ht⟩ := getSome (l := ts) (i := i) (by omega)
   have htl := hs t (List.mem_of_getElem? ht)
   have htm : (t.l.map It.cells).length ≤ 1000 := (by rw [List.length_map]; exact htl)
   refine RC.skip (RC.back (RC.seq (RC.block (RC.seq (RC.region rfl ?_)))));refine RL.eS (.indexS sl191 rfl rfl (by omega) (hP.is (i := 0) (by simp only [List.length_map, List.length_cons, List.length_nil]; omega))) ?_;refine RL.eS (.as (v' := .slice t.a t.l.length t.c) (.load1 sh42 rfl ((hP.sub S).one (enc := Tri.v) (i := i) ht)) (by rfl)) ?_;refine RL.asS rfl ?_;refine RL.nil (RC.back (RC.region rfl ?_));refine RL.mvS rfl ?_;refine RL.mvS rfl ?_;have sz_33 := S.size;refine RL.append2 (base := w.heap.size) (rows := (catT (ts.take i)).map It.cells) (news := t.l.map It.cells) sl42 ze51 rfl rfl rfl rfl (.inl o) ((hT t (List.mem_of_getElem? ht)).sub S) (by (try simp only [List.length_map]); first | done | rfl) (by intro r hr; obtain ⟨x, _, rfl⟩ := List.mem_map.1 hr; rfl) (by rw [List.all_eq_true]; intro r hr; obtain ⟨x, _, rfl⟩ := List.mem_map.1 hr; rfl) (by (try simp only [List.length_map, List.length_nil, List.length_append, List.length_cons]); omega) (by (try simp only [List.length_map, List.length_nil, List.length_append, List.length_cons]); omega) (by omega) rfl rfl (fun v_33 w_33 hc_33 ho_33 ag_33 ob_33 => ?_)
   have o33 := ho_33 (.inr o)
   have S := S.agrN ag_33 (fun k e => Nat.le_trans (by omega) e.2)
   obtain ⟨a_33, c_33, rfl, k_33⟩ := o33.form
   rw [← List.map_append, ← catT_succ ht] at o33
   rw [← List.map_append, ← catT_succ ht]
   refine RL.asS rfl ?_;refine RL.nil (RC.back (RC.region rfl ?_));refine RL.eS (.as (.bin rfl rfl rfl) (wi64 (y := ((i + 1 : Nat) : Int)) (by omega) (by omega))) ?_;refine RL.mvS rfl ?_
   exact RL.nil (fun a ka => ⟨(i + 1, a_33, c_33), ⟨by omega, o33, S⟩, by omega, ka.keep (keep_of (by repeat (first | exact trivial | refine And.intro rfl ?_)))⟩)
  ·
   obtain rfl : i = ts.length := (by omega)
   rw [List.take_length] at o
   refine RC.exit rfl (RC.back (RC.seq (RC.region rfl ?_)));refine RL.mvS rfl ?_;refine RL.asS rfl ?_;refine RL.nil (RC.back ?_);refine RC.d1 2 rfl rfl rfl ?_
   rw [List.take_length]
   exact ⟨S, a, c, by rw [List.length_map]; rfl, o.sl.1⟩
theorem c_horder (x y : It) (w : World) : FC Tryz.prog 103 [x.val, y.val] w (Val (.int .i64 (cmpIt x y)) w) := by
 refine FC.intro Tryz.func103 rfl Tryz.ntmps103 rfl ?_
 have S := Sub.refl w
 refine RC.seq (RC.region rfl ?_);refine RL.box rfl rfl rfl (fun b_2 w_2 e_2 z_2 hb_2 s_2 => ?_);have S := S.trans s_2
 have hb_2 : Has w_2 b_2 ([.int .i64 x.k, .int .i64 x.v]) _ := hb_2
 refine RL.box rfl rfl rfl (fun b_3 w_3 e_3 z_3 hb_3 s_3 => ?_);have S := S.trans s_3;have hb_2 := hb_2.sub s_3
 have hb_3 : Has w_3 b_3 ([.int .i64 y.k, .int .i64 y.v]) _ := hb_3
 refine RL.asS rfl ?_;refine RL.nil (RC.back (RC.seq ?_));refine RC.drawD (fun k => False) [] w_3.heap.size 13 rfl rfl mxo (fun w1 s2 => ?_)
 have hNN : ∀ k, ((False) ∨ w_3.heap.size ≤ k) → w.heap.size ≤ k := fun k e => e.elim (fun e => e.elim) (fun e => Nat.le_trans S.size e)
 have hN0 : ∀ k, w_3.heap.size ≤ k → w.heap.size ≤ k := fun k e => Nat.le_trans S.size e
 have ltD_b_2 := hb_2.lt;have ltD_b_3 := hb_3.lt;have szD := Nat.le_refl w_3.heap.size;have S := S.trans s2;have hb_2 := hb_2.sub s2;have hb_3 := hb_3.sub s2;have szD := Nat.le_trans szD s2.size;refine RD.tS 0 rfl (fun w' s' => .field0 fo51_0 rfl) ?_;refine RD.tS 1 rfl (fun w' s' => .load1 sh2 rfl ((hb_2.step s' (fun e => e.elim (fun e => e.elim) (fun e => Nat.not_le.2 ltD_b_2 e))).cell rfl)) ?_;refine RD.tS 2 rfl (fun w' s' => .field0 fo51_0 rfl) ?_;refine RD.tS 3 rfl (fun w' s' => .load1 sh2 rfl ((hb_3.step s' (fun e => e.elim (fun e => e.elim) (fun e => Nat.not_le.2 ltD_b_3 e))).cell rfl)) ?_;refine RD.tS 5 rfl (fun w' s' => .field0 fo51_1 rfl) ?_;refine RD.tS 6 rfl (fun w' s' => .load1 sh2 rfl ((hb_2.step s' (fun e => e.elim (fun e => e.elim) (fun e => Nat.not_le.2 ltD_b_2 e))).cell rfl)) ?_;refine RD.tS 7 rfl (fun w' s' => .field0 fo51_1 rfl) ?_;refine RD.tS 8 rfl (fun w' s' => .load1 sh2 rfl ((hb_3.step s' (fun e => e.elim (fun e => e.elim) (fun e => Nat.not_le.2 ltD_b_3 e))).cell rfl)) ?_;refine RD.oneS 4 rfl ?_;refine RL.call rfl ok49 (c_compare x.k y.k w1) rfl rfl ?_;rintro _ w3 ⟨rfl, s4⟩;have S := S.trans s4;have szD := Nat.le_trans szD s4.size;refine RD.back s4.agr ?_;refine RD.oneS 9 rfl ?_;refine RL.call rfl ok49 (c_compare x.v y.v w3) rfl rfl ?_;rintro _ w5 ⟨rfl, s6⟩;have S := S.trans s6;have szD := Nat.le_trans szD s6.size;refine RD.back s6.agr ?_;refine RD.oneS 10 rfl ?_;refine RL.buildSliceN (vs := [_, _]) sl24 _ ze3 rfl ⟨rfl, rfl, trivial⟩ rfl rfl rfl rfl rfl rfl (fun b_15 w_15 e_15 z_15 hb_15 s_15 => ?_)
 have fr_b_15 : w_3.heap.size ≤ b_15 := by rw [e_15]; exact szD
 have S := S.trans s_15;refine RD.back s_15.agr ?_;refine RD.oneS 11 rfl ?_;refine RL.call rfl ok171 (c_or (cmpI x.k y.k) (cmpI x.v y.v) _ _ _ rfl w_15 (Has.sl1 (enc := i6) (l := [cmpI x.k y.k, cmpI x.v y.v]) hb_15)) rfl rfl ?_;rintro _ w7 ⟨rfl, s8⟩;have S := S.trans s8;refine RD.back s8.agr ?_;refine RD.tS 12 rfl (fun w' s' => .assign rfl) ?_;refine RD.done (by kernel_rfl) (RC.back ?_);refine RC.d1 4 rfl rfl rfl ?_
 exact ⟨rfl, S⟩
theorem cmpIt_lt {x y : It} : cmpIt x y < 0 ↔ lessP x y := by
  rcases cmpIt_cases x y with ⟨h, e⟩ | ⟨h, e⟩ | ⟨h, e⟩
  · rw [e]; exact ⟨fun _ => h, fun _ => by decide⟩
  · rw [e]; exact ⟨fun h2 => absurd h2 (by decide), fun h2 => by unfold lessP at *; omega⟩
  · rw [e]; exact ⟨fun h2 => absurd h2 (by decide), fun h2 => by subst h; unfold lessP at *; omega⟩
theorem c_hitem (x : Node) (w : World) : FC Tryz.prog 102 [x.val] w (Val (itN x).val w) := by
 refine FC.intro Tryz.func102 rfl Tryz.ntmps102 rfl ?_
 have S := Sub.refl w
 refine RC.seq (RC.region rfl ?_);refine RL.box rfl rfl rfl (fun b_1 w_1 e_1 z_1 hb_1 s_1 => ?_);have S := S.trans s_1
 have hb_1 : Has w_1 b_1 (x.cells) _ := hb_1
 refine RL.alloc ze51 rfl rfl (fun b_2 w_2 e_2 z_2 hb_2 s_2 => ?_);have ge_2 := S.le e_2;have S := S.trans s_2;have hb_1 := hb_1.sub s_2;refine RL.nil (RC.back (RC.seq (RC.region rfl ?_)));refine RL.eS (.field0 fo140_2 rfl) ?_;refine RL.eS (.load1 sh2 rfl (hb_1.cell rfl)) ?_;refine RL.eS (.field0 fo140_3 rfl) ?_;refine RL.eS (.load1 sh2 rfl (hb_1.cell rfl)) ?_;refine RL.eS (.buildS ze51 pl51 rfl rfl) ?_;refine RL.stS sh51 rfl rfl rfl hb_2 (fun w1 z1 hb_2 a1 => ?_);have S := S.upd a1 ge_2
 have hb_2 : Has w1 b_2 ((itN x).cells) _ := hb_2.now (by kernel_rfl)
 refine RL.nil (RC.back ?_);refine RC.done (rs := [.cell 2 51]) (vs := [_]) rfl rfl ⟨⟨_, rfl, .inr ⟨(itN x).cells, sh51, hb_2.row, rfl⟩⟩, trivial⟩ ?_
 exact ⟨rfl, S⟩
theorem c_hpget (A : Ar) (na fa : Option Addr) (nc fc : Nat) (bad : Int) (bf : Nat) (r : Int) (hr : U64 r) (w : World) (hbf : Has w bf (wvC na fa nc fc A bad) 244) (hA : ArR w na fa A) :
  FC Tryz.prog 149 [.pointer (some ⟨bf, 0, none⟩), .int .u64 r] w (Val (getN A r).val w) := by
 obtain ⟨e, hgv⟩ := getN_v A r
 refine FC.intro Tryz.func149 rfl Tryz.ntmps149 rfl ?_
 have S := Sub.refl w
 refine RC.seq (RC.region rfl ?_);refine RL.alloc ze140 rfl rfl (fun b_4 w_4 e_4 z_4 hb_4 s_4 => ?_);have ge_4 := S.le e_4;have S := S.trans s_4;have hbf := hbf.sub s_4;refine RL.nil (RC.back (RC.seq (RC.region rfl ?_)));refine RL.mvS rfl ?_;refine RL.eS (.nilCheck rfl) ?_;refine RL.eS (.field0 fo244_0 rfl) ?_;refine RL.eS (.loadR (wvA na fa nc fc A) sh26 rfl (row_pref (xs := wvA na fa nc fc A) (ys := [.int .i64 bad]) hbf) rfl) ?_;refine RL.mvS rfl ?_;refine RL.call rfl ok125 (c_aGet A na fa nc fc r hr w_4 (hA.sub S)) rfl rfl ?_;rintro _ w1 ⟨rfl, s2⟩;have S := S.trans s2;have hb_4 := hb_4.sub s2;refine RL.eS (.as (v' := .tuple #[(getN A r).val, .int .i64 e]) (.move rfl) (by rw [hgv])) ?_;refine RL.eS (.extract rfl rfl) ?_;refine RL.eS (.extract rfl rfl) ?_;refine RL.alloc ze140 rfl rfl (fun b_5 w_5 e_5 z_5 hb_5 s_5 => ?_);have ge_5 := S.le e_5;have n_4__5 := hb_4.ne e_5;have S := S.trans s_5;have hb_4 := hb_4.sub s_5;refine RL.stS sh140 rfl rfl rfl hb_5 (fun w3 z3 hb_5 a3 => ?_);have S := S.upd a3 ge_5;have hb_4 := hb_4.upd a3 n_4__5
 have hb_5 : Has w3 b_5 ((getN A r).cells) _ := hb_5.now (by kernel_rfl)
 refine RL.asS rfl ?_;refine RL.nil (RC.back (RC.seq (RC.region rfl ?_)));refine RL.eS (.loadR ((getN A r).cells) sh140 rfl hb_5.row rfl) ?_;refine RL.stS sh140 rfl rfl rfl hb_4 (fun w4 z4 hb_4 a4 => ?_);have S := S.upd a4 ge_4
 have hb_4 : Has w4 b_4 ((getN A r).cells) _ := hb_4.now (by kernel_rfl)
 refine RL.nil (RC.back ?_);refine RC.done (rs := [.cell 4 140]) (vs := [_]) rfl rfl ⟨⟨_, rfl, .inr ⟨(getN A r).cells, sh140, hb_4.row, rfl⟩⟩, trivial⟩ ?_
 exact ⟨rfl, S⟩
def hB1 (y : Node) (a b : Int) : Node := ⟨y.kind, y.gen, y.n, y.v, y.s, a, b, 0, 0, 0, 0, 0, 0, 0, 0, 0⟩
theorem hB1_iff {y : Node} (h : y.kind = 6) : y = hB1 y y.k0 y.k1 ↔ hBare y = y := by
  unfold hB1 hBare hNode
  rw [h]
  exact ⟨fun e => e.symm, fun e => e.symm⟩
set_option maxHeartbeats 4000000 in
theorem c_pmay (A : Ar) (na fa : Option Addr) (nc fc : Nat) (bad : Int) (bf bs : Nat) (hfs : bf ≠ bs) (M : Nat → Prop) (hMs : ∀ k, M k → k ≠ bs) (hmost : A.nodes.length ≤ 512) : ∀ (k : Nat) (r : Int) (b : It) (out : List Int) (left : Int) (w : World), U64 r → 0 ≤ left → left < k → left ≤ 200 → Pl A out → Has w bf (wvC na fa nc fc A bad) 244 → Has w bs ((flagsO A.nodes.length out).map Value.bool) 4 → Ft M (fun u => ArR u na fa A) w →
    FC Tryz.prog 232 [.pointer (some ⟨bf, 0, none⟩), .int .u64 r, b.val, .slice (some ⟨bs, 0, none⟩) A.nodes.length A.nodes.length, .int .i64 left] w (fun v w' => v = .int .i64 (hmF A k r b out 0 left).1 ∧ Has w' bs ((flagsO A.nodes.length (hmF A k r b out 0 left).2).map Value.bool) 4 ∧ Agr (· = bs) w w') := by
  intro k
  induction k using Nat.strongRecOn with
  | _ k ih =>
  intro r b out left w hr hl0 hlk hl hp hbf hs hA
  have nfs := hfs
  refine FC.intro Tryz.func232 rfl Tryz.ntmps232 rfl ?_
  have G : Agr (· = bs) w w := Agr.refl _ _
  refine RC.seq (RC.region rfl ?_);refine RL.box rfl rfl rfl (fun b_7 w_7 e_7 z_7 hb_7 s_7 => ?_);have ns__7 := hs.ne e_7;have G := G.trans s_7.agr;have hbf := hbf.sub s_7;have hs := hs.sub s_7;have hA := hA.sub s_7
  have hb_7 : Has w_7 b_7 (b.cells) _ := hb_7
  refine RL.asS rfl ?_;refine RL.nil (RC.back (RC.seq (RC.region rfl ?_)));refine RL.asS rfl ?_;refine RL.nil (RC.back (RC.seq (RC.block ?_)));refine RC.loop (α := Nat × Int × List Int × Int) (fun x => [(0, .pointer (some ⟨bf, 0, none⟩)), (1, .int .u64 x.2.1), (3, .slice (some ⟨bs, 0, none⟩) A.nodes.length A.nodes.length), (4, .int .i64 left), (7, .pointer (some ⟨b_7, 0, none⟩)), (11, .int .i64 x.2.2.2)]) (fun x w1 => (hmF A x.1 x.2.1 b x.2.2.1 x.2.2.2 left = hmF A k r b out 0 left ∧ x.1 ≤ k ∧ 0 ≤ x.2.2.2 ∧ x.2.2.2 ≤ left ∧ left - x.2.2.2 < x.1 ∧ U64 x.2.1 ∧ Pl A x.2.2.1) ∧ Has w1 bf (wvC na fa nc fc A bad) 244 ∧ Has w1 bs ((flagsO A.nodes.length x.2.2.1).map Value.bool) 4 ∧ Has w1 b_7 b.cells 51 ∧ Ft M (fun u => ArR u na fa A) w1 ∧ Agr (· = bs) w w1) (fun x => x.1) (k, r, out, 0) (keep_of (by repeat (first | exact trivial | refine And.intro rfl ?_))) (⟨⟨rfl, Nat.le_refl _, Int.le_refl _, hl0, by show left - 0 < (k : Int); omega, hr, hp⟩, hbf, hs, hb_7, hA, G⟩) (fun x w1 hJ => ?_)
  obtain ⟨j1, r1, out1, sum⟩ := x; obtain ⟨⟨hT, hjk, hs0, hsl, hlj, hr1, hp1⟩, hbf, hs, hb_7, hA, G⟩ := hJ; simp only [] at hT hjk hs0 hsl hlj hr1 hp1 hs; obtain ⟨j, rfl⟩ : ∃ j, j1 = j + 1 := ⟨j1 - 1, by omega⟩; obtain ⟨y, e, hgv, hgs, hgn⟩ := getV_form2 A r1
  refine RC.seq (RC.seq (RC.region rfl ?_));refine RL.mvS rfl ?_;refine RL.eS (.bin rfl rfl rfl) ?_;refine RL.nil (RC.back ?_);refine RC.cond_dec rfl (fun h2 => ?_) (fun h2 => ?_)
  ·
    have hr0 := h2
    refine RC.skip (RC.back (RC.block (RC.seq (RC.region rfl ?_))));refine RL.mvS rfl ?_;refine RL.eS (.nilCheck rfl) ?_;refine RL.eS (.field0 fo244_0 rfl) ?_;refine RL.eS (.loadR (wvA na fa nc fc A) sh26 rfl (row_pref (xs := wvA na fa nc fc A) (ys := [.int .i64 bad]) hbf) rfl) ?_;refine RL.mvS rfl ?_;refine RL.call rfl ok125 (c_aGet A na fa nc fc r1 hr1 w1 hA.now) rfl rfl ?_;rintro _ w3 ⟨rfl, s4⟩;have G := G.trans s4.agr;have hbf := hbf.sub s4;have hs := hs.sub s4;have hb_7 := hb_7.sub s4;have hA := hA.sub s4;refine RL.eS (.as (v' := .tuple #[y.val, .int .i64 e]) (.move rfl) (by rw [hgv])) ?_;refine RL.eS (.extract rfl rfl) ?_;refine RL.eS (.extract rfl rfl) ?_;refine RL.alloc ze140 rfl rfl (fun b_12 w_12 e_12 z_12 hb_12 s_12 => ?_);have nf__12 := hbf.ne e_12;have ns__12 := hs.ne e_12;have n_7__12 := hb_7.ne e_12;have d_hA_b_12 := hA.neNew e_12
    have geG_12 := agLe G e_12
    have G := G.trans s_12.agr;have hbf := hbf.sub s_12;have hs := hs.sub s_12;have hb_7 := hb_7.sub s_12;have hA := hA.sub s_12;refine RL.stS sh140 rfl rfl rfl hb_12 (fun w5 z5 hb_12 a5 => ?_)
    have G := agNew G a5 geG_12
    have hbf := hbf.upd a5 nf__12;have hs := hs.upd a5 ns__12;have hb_7 := hb_7.upd a5 n_7__12;have hA := hA.updD a5 d_hA_b_12
    have hb_12 : Has w5 b_12 (y.cells) _ := hb_12.now (by kernel_rfl)
    refine RL.asS rfl ?_;refine RL.nil (RC.back (RC.seq (RC.seq ?_)));refine RC.draw rfl mxo (by kernel_rfl) ?_;refine RQ.ev (.move rfl) rfl rfl ?_;refine RQ.ev (.bin rfl rfl rfl) rfl rfl ?_;refine RQ.ev (.move rfl) rfl rfl ?_;refine RQ.split 29 rfl (fun h6 => ?_) (fun h6 => ?_)
    ·
      have hres : hmF A k r b out 0 left = (-1, out1) := (by rw [← hT]; cases hg : getA A r1 with | none => exact hmF_none hr0 hg | some x => exact absurd (hgs x hg).2 h6)
      refine RQ.oS ?_;refine RQ.oS ?_;refine RQ.oS ?_;refine RQ.ev (.pick_t rfl rfl) rfl rfl ?_;refine RQ.ev (.move rfl) rfl rfl ?_;refine RQ.oS ?_;refine RQ.oS ?_;refine RQ.oS ?_;refine RQ.ev (.pick_t rfl rfl) rfl rfl ?_;refine RQ.ev (.move rfl) rfl rfl ?_;refine RQ.oS ?_;refine RQ.oS ?_;refine RQ.oS ?_;refine RQ.oS ?_;refine RQ.oS ?_;refine RQ.ev (.pick_t rfl rfl) rfl rfl ?_;refine RQ.ev (.move rfl) rfl rfl ?_;refine RQ.oS ?_;refine RQ.oS ?_;refine RQ.oS ?_;refine RQ.oS ?_;refine RQ.oS ?_;refine RQ.ev (.pick_t rfl rfl) rfl rfl ?_;refine RQ.nil (fun w7 s8 => RC.back ?_);have G := G.trans s8.agr;have hbf := hbf.sub s8;have hs := hs.sub s8;have hb_7 := hb_7.sub s8;have hA := hA.sub s8;have hb_12 := hb_12.sub s8;refine RC.cond_t rfl ?_;refine RC.seq (RC.region rfl ?_);refine RL.asS rfl ?_;refine RL.nil (RC.back ?_);refine RC.d1 10 rfl rfl rfl ?_
      rw [hres]
      exact ⟨rfl, hs, G⟩
    ·
      have hy : getA A r1 = some y := (by cases hg : getA A r1 with | none => have := (hgn hg).2; omega | some x => rw [(hgs x hg).1])
      have hrg := getA_rng hy
      have hyo := hA.now.nok y (getA_nok hy)
      refine RQ.ev (.move rfl) rfl rfl ?_;refine RQ.ev (.move rfl) rfl rfl ?_;refine RQ.ev (.bin rfl rfl rfl) rfl rfl ?_;refine RQ.ev (.pick_f rfl rfl) rfl rfl ?_;refine RQ.ev (.move rfl) rfl rfl ?_;refine RQ.split 34 rfl (fun h9 => ?_) (fun h9 => ?_)
      ·
        have hres := hT.symm.trans (hmF_bad (k := j) (b := b) (out := out1) hr0 hy (.inl h9))
        refine RQ.oS ?_;refine RQ.oS ?_;refine RQ.oS ?_;refine RQ.ev (.pick_t rfl rfl) rfl rfl ?_;refine RQ.ev (.move rfl) rfl rfl ?_;refine RQ.oS ?_;refine RQ.oS ?_;refine RQ.oS ?_;refine RQ.oS ?_;refine RQ.oS ?_;refine RQ.ev (.pick_t rfl rfl) rfl rfl ?_;refine RQ.ev (.move rfl) rfl rfl ?_;refine RQ.oS ?_;refine RQ.oS ?_;refine RQ.oS ?_;refine RQ.oS ?_;refine RQ.oS ?_;refine RQ.ev (.pick_t rfl rfl) rfl rfl ?_;refine RQ.nil (fun w10 s11 => RC.back ?_);have G := G.trans s11.agr;have hbf := hbf.sub s11;have hs := hs.sub s11;have hb_7 := hb_7.sub s11;have hA := hA.sub s11;have hb_12 := hb_12.sub s11;refine RC.cond_t rfl ?_;refine RC.seq (RC.region rfl ?_);refine RL.asS rfl ?_;refine RL.nil (RC.back ?_);refine RC.d1 10 rfl rfl rfl ?_
        rw [hres]
        exact ⟨rfl, hs, G⟩
      ·
        have p34 := h9
        refine RQ.ev (.field0 fo140_0 rfl) rfl rfl ?_;refine RQ.ev (.load1 sh3 rfl (hb_12.cell rfl)) rfl rfl ?_;refine RQ.ev (.bin rfl rfl rfl) rfl rfl ?_;refine RQ.ev (.pick_f rfl rfl) rfl rfl ?_;refine RQ.ev (.move rfl) rfl rfl ?_;refine RQ.split 39 rfl (fun h12 => ?_) (fun h12 => ?_)
        ·
          have hres := hT.symm.trans (hmF_bad (k := j) (b := b) (out := out1) (sum := sum) (left := left) hr0 hy (.inr (.inl h12)))
          refine RQ.oS ?_;refine RQ.oS ?_;refine RQ.oS ?_;refine RQ.oS ?_;refine RQ.oS ?_;refine RQ.ev (.pick_t rfl rfl) rfl rfl ?_;refine RQ.ev (.move rfl) rfl rfl ?_;refine RQ.oS ?_;refine RQ.oS ?_;refine RQ.oS ?_;refine RQ.oS ?_;refine RQ.oS ?_;refine RQ.ev (.pick_t rfl rfl) rfl rfl ?_;refine RQ.nil (fun w13 s14 => RC.back ?_);have G := G.trans s14.agr;have hbf := hbf.sub s14;have hs := hs.sub s14;have hb_7 := hb_7.sub s14;have hA := hA.sub s14;have hb_12 := hb_12.sub s14;refine RC.cond_t rfl ?_;refine RC.seq (RC.region rfl ?_);refine RL.asS rfl ?_;refine RL.nil (RC.back ?_);refine RC.d1 10 rfl rfl rfl ?_
          rw [hres]
          exact ⟨rfl, hs, G⟩
        ·
          have p39 := h12
          refine RQ.ev (.move rfl) rfl rfl ?_;refine RQ.ev (.move rfl) rfl rfl ?_;refine RQ.call rfl ok169 (fun w' s' => c_refPlace r1 hr1 w') rfl rfl ?_;refine RQ.ev (.indexO sl253 rfl rfl (by omega)) rfl rfl ?_;refine RQ.ev (.load1 sh4 rfl (hs.cell (v := .bool (decide (placeR r1 ∈ out1))) (by rw [Nat.mul_one, Nat.zero_add, List.getElem?_map, flagsO_get _ _ _ (by omega)]; rfl))) rfl rfl ?_;refine RQ.ev (.pick_f rfl rfl) rfl rfl ?_;refine RQ.ev (.move rfl) rfl rfl ?_;refine RQ.split 46 rfl (fun h15 => ?_) (fun h15 => ?_)
          ·
            have hres := hT.symm.trans (hmF_bad (k := j) (b := b) (out := out1) (sum := sum) (left := left) hr0 hy (.inr (.inr (.inl h15))))
            refine RQ.oS ?_;refine RQ.oS ?_;refine RQ.oS ?_;refine RQ.oS ?_;refine RQ.oS ?_;refine RQ.ev (.pick_t rfl rfl) rfl rfl ?_;refine RQ.nil (fun w16 s17 => RC.back ?_);have G := G.trans s17.agr;have hbf := hbf.sub s17;have hs := hs.sub s17;have hb_7 := hb_7.sub s17;have hA := hA.sub s17;have hb_12 := hb_12.sub s17;refine RC.cond_t rfl ?_;refine RC.seq (RC.region rfl ?_);refine RL.asS rfl ?_;refine RL.nil (RC.back ?_);refine RC.d1 10 rfl rfl rfl ?_
            rw [hres]
            exact ⟨rfl, hs, G⟩
          ·
            have p46 := h15
            refine RQ.ev (.loadR (y.cells) sh140 rfl hb_12.row rfl) rfl rfl ?_;refine RQ.call rfl ok102 (fun w' s' => c_hitem y w') rfl rfl ?_;refine RQ.ev (.loadR (b.cells) sh51 rfl hb_7.row rfl) rfl rfl ?_;refine RQ.call rfl ok103 (fun w' s' => c_horder (itN y) b w') rfl rfl ?_;refine RQ.ev (.bin rfl rfl rfl) rfl rfl ?_;refine RQ.ev (.pick_f rfl rfl) rfl rfl ?_;refine RQ.nil (fun w18 s19 => RC.back ?_);have G := G.trans s19.agr;have hbf := hbf.sub s19;have hs := hs.sub s19;have hb_7 := hb_7.sub s19;have hA := hA.sub s19;have hb_12 := hb_12.sub s19;refine RC.cond_dec rfl (fun h20 => ?_) (fun h20 => ?_)
            ·
              have hres := hT.symm.trans (hmF_bad (k := j) (b := b) (out := out1) (sum := sum) (left := left) hr0 hy (.inr (.inr (.inr (cmpIt_lt.1 h20)))))
              refine RC.seq (RC.region rfl ?_);refine RL.asS rfl ?_;refine RL.nil (RC.back ?_);refine RC.d1 10 rfl rfl rfl ?_
              rw [hres]
              exact ⟨rfl, hs, G⟩
            ·
              have hnb : ¬ (left ≤ sum ∨ ¬ y.kind = 6 ∨ placeR r1 ∈ out1 ∨ lessP (itN y) b) := (fun e => e.elim p34 (fun e => e.elim p39 (fun e => e.elim p46 (fun e => h20 (cmpIt_lt.2 e)))))
              have hk6 : y.kind = 6 := Decidable.not_not.1 p39
              have hp2 := hp1.add hrg p46
              refine RC.skip (RC.back (RC.seq (RC.region rfl ?_)));refine RL.mvS rfl ?_;refine RL.mvS rfl ?_;refine RL.call rfl ok169 (c_refPlace r1 hr1 w18) rfl rfl ?_;rintro _ w21 ⟨rfl, s22⟩;have G := G.trans s22.agr;have hbf := hbf.sub s22;have hs := hs.sub s22;have hb_7 := hb_7.sub s22;have hA := hA.sub s22;have hb_12 := hb_12.sub s22;refine RL.eS (.indexO sl253 rfl rfl (by omega)) ?_;refine RL.store sh4 rfl rfl rfl hs (by show 0 + (placeR r1).toNat * 1 + 1 ≤ _; rw [List.length_map, flagsO_len]; omega) (by rfl) rfl (fun w23 z23 hs a23 => ?_);have G := G.trans a23;have hbf := hbf.upd a23 nfs;have hb_7 := hb_7.upd a23 ns__7.symm;have hA := hA.updD a23 hMs;have hb_12 := hb_12.upd a23 ns__12.symm
              have hs := (Has.set1 (enc := Value.bool) (i := (placeR r1).toNat) (x := true) (by rw [Nat.zero_add, Nat.mul_one] at hs; exact hs))
              rw [flagsO_set _ _ _ hrg] at hs
              refine RL.nil (RC.back (RC.seq (RC.region rfl ?_)));refine RL.eS (.field0 fo140_0 rfl) ?_;refine RL.eS (.load1 sh3 rfl (hb_12.cell rfl)) ?_;refine RL.eS (.field0 fo140_1 rfl) ?_;refine RL.eS (.load1 sh3 rfl (hb_12.cell rfl)) ?_;refine RL.eS (.field0 fo140_2 rfl) ?_;refine RL.eS (.load1 sh2 rfl (hb_12.cell rfl)) ?_;refine RL.eS (.field0 fo140_3 rfl) ?_;refine RL.eS (.load1 sh2 rfl (hb_12.cell rfl)) ?_;refine RL.eS (.field0 fo140_4 rfl) ?_;refine RL.eS (.load1 sh2 rfl (hb_12.cell rfl)) ?_;refine RL.eS (.buildS ze140 pl140 rfl rfl) ?_;refine RL.alloc ze140 rfl rfl (fun b_14 w_14 e_14 z_14 hb_14 s_14 => ?_);have nf__14 := hbf.ne e_14;have ns__14 := hs.ne e_14;have n_7__14 := hb_7.ne e_14;have n_12__14 := hb_12.ne e_14;have d_hA_b_14 := hA.neNew e_14
              have geG_14 := agLe G e_14
              have G := G.trans s_14.agr;have hbf := hbf.sub s_14;have hs := hs.sub s_14;have hb_7 := hb_7.sub s_14;have hA := hA.sub s_14;have hb_12 := hb_12.sub s_14;refine RL.stS sh140 rfl rfl rfl hb_14 (fun w24 z24 hb_14 a24 => ?_)
              have G := agNew G a24 geG_14
              have hbf := hbf.upd a24 nf__14;have hs := hs.upd a24 ns__14;have hb_7 := hb_7.upd a24 n_7__14;have hA := hA.updD a24 d_hA_b_14;have hb_12 := hb_12.upd a24 n_12__14
              have hb_14 : Has w24 b_14 ((hB1 y 0 0).cells) _ := hb_14.now (by kernel_rfl)
              refine RL.nil (RC.back ?_);refine RC.cutx (α := Unit) (fun _ => [(0, .pointer (some ⟨bf, 0, none⟩)), (1, .int .u64 r1), (3, .slice (some ⟨bs, 0, none⟩) A.nodes.length A.nodes.length), (4, .int .i64 left), (7, .pointer (some ⟨b_7, 0, none⟩)), (11, .int .i64 sum), (12, .pointer (some ⟨b_12, 0, none⟩)), (14, .pointer (some ⟨b_14, 0, none⟩))]) (fun _ w25 => Has w25 bf (wvC na fa nc fc A bad) 244 ∧ Has w25 bs ((flagsO A.nodes.length (out1 ++ [placeR r1])).map Value.bool) 4 ∧ Has w25 b_7 b.cells 51 ∧ Has w25 b_12 y.cells 140 ∧ Has w25 b_14 (hB1 y y.k0 y.k1).cells 140 ∧ Ft M (fun u => ArR u na fa A) w25 ∧ Agr (· = bs) w w25) ?_ (fun _ w25 hJ => ?_)
              ·
                refine RC.drawD (fun k => k = b_14) [8, 11] w24.heap.size 12 rfl rfl mxo (fun w26 s27 => ?_);have ltD_b_12 := hb_12.lt;have G := G.trans s27.agr;have hbf := hbf.sub s27;have hs := hs.sub s27;have hb_7 := hb_7.sub s27;have hA := hA.sub s27;have hb_12 := hb_12.sub s27;have hb_14 := hb_14.sub s27;refine RD.tS 0 rfl (fun w' s' => .field0 fo140_5 rfl) ?_;refine RD.tS 1 rfl (fun w' s' => .indexArr ar138 rfl rfl (by omega)) ?_;refine RD.tS 2 rfl (fun w' s' => .load1 sh31 rfl ((hb_12.step s' (fun e => e.elim (fun e => n_12__14 e) (fun e => Nat.not_le.2 ltD_b_12 e))).cell rfl)) ?_;refine RD.tS 3 rfl (fun w' s' => .field0 fo140_5 rfl) ?_;refine RD.tS 4 rfl (fun w' s' => .indexArr ar138 rfl rfl (by omega)) ?_;refine RD.tS 5 rfl (fun w' s' => .load1 sh31 rfl ((hb_12.step s' (fun e => e.elim (fun e => n_12__14 e) (fun e => Nat.not_le.2 ltD_b_12 e))).cell rfl)) ?_;refine RD.tS 6 rfl (fun w' s' => .field0 fo140_5 rfl) ?_;refine RD.tS 7 rfl (fun w' s' => .indexArr ar138 rfl rfl (by omega)) ?_;refine RD.tS 9 rfl (fun w' s' => .field0 fo140_5 rfl) ?_;refine RD.oneS 8 rfl ?_;refine RL.stS sh31 rfl rfl rfl hb_14 (fun w28 z28 hb_14 a28 => ?_)
                have G := agNew G a28 geG_14
                have hbf := hbf.upd a28 nf__14;have hs := hs.upd a28 ns__14;have hb_7 := hb_7.upd a28 n_7__14;have hA := hA.updD a28 d_hA_b_14;have hb_12 := hb_12.upd a28 n_12__14;refine RD.backW rfl (a28.mono fun k _ e => e ▸ (.inl (rfl))) ?_;refine RD.tS 10 rfl (fun w' s' => .indexArr ar138 rfl rfl (by omega)) ?_;refine RD.oneS 11 rfl ?_;refine RL.stS sh31 rfl rfl rfl hb_14 (fun w29 z29 hb_14 a29 => ?_)
                have G := agNew G a29 geG_14
                have hbf := hbf.upd a29 nf__14;have hs := hs.upd a29 ns__14;have hb_7 := hb_7.upd a29 n_7__14;have hA := hA.updD a29 d_hA_b_14;have hb_12 := hb_12.upd a29 n_12__14;refine RD.backW rfl (a29.mono fun k _ e => e ▸ (.inl (rfl))) ?_
                exact RD.done (by kernel_rfl) (fun a ka => ⟨(), ⟨hbf, hs, hb_7, hb_12, hb_14, hA, G⟩, ka.keep (keep_of (by repeat (first | exact trivial | refine And.intro rfl ?_)))⟩)
              obtain ⟨hbf, hs, hb_7, hb_12, hb_14, hA, G⟩ := hJ
              refine RC.seq ?_;refine RC.drawD (fun k => k = bs) [11, 11] w25.heap.size 13 rfl rfl mxo (fun w30 s31 => ?_);have ltD_b_12 := hb_12.lt;have G := G.trans s31.agr;have hbf := hbf.sub s31;have hs := hs.sub s31;have hb_7 := hb_7.sub s31;have hb_12 := hb_12.sub s31;have hb_14 := hb_14.sub s31;have hA := hA.sub s31;refine RD.tS 0 rfl (fun w' s' => .move rfl) ?_;refine RD.tS 1 rfl (fun w' s' => .field0 fo140_5 rfl) ?_;refine RD.tS 2 rfl (fun w' s' => .indexArr ar138 rfl rfl (by omega)) ?_;refine RD.tS 3 rfl (fun w' s' => .load1 sh31 rfl ((hb_12.step s' (fun e => e.elim (fun e => ns__12.symm e) (fun e => Nat.not_le.2 ltD_b_12 e))).cell rfl)) ?_;refine RD.tS 4 rfl (fun w' s' => .loadR (y.cells) sh140 rfl (hb_12.step s' (fun e => e.elim (fun e => ns__12.symm e) (fun e => Nat.not_le.2 ltD_b_12 e))).row rfl) ?_;refine RD.tS 6 rfl (fun w' s' => .move rfl) ?_;refine RD.tS 7 rfl (fun w' s' => .move rfl) ?_;refine RD.tS 8 rfl (fun w' s' => .move rfl) ?_;refine RD.tS 9 rfl (fun w' s' => .as (.bin rfl rfl rfl) (wi64 (y := left - sum) (by rfl) (by omega))) ?_;refine RD.tS 10 rfl (fun w' s' => .as (.bin rfl rfl rfl) (wi64 (y := left - sum - 1) (by rfl) (by omega))) ?_;refine RD.oneS 5 rfl ?_;refine RL.call rfl ok102 (c_hitem y w30) rfl rfl ?_;rintro _ w32 ⟨rfl, s33⟩;have G := G.trans s33.agr;have hbf := hbf.sub s33;have hs := hs.sub s33;have hb_7 := hb_7.sub s33;have hb_12 := hb_12.sub s33;have hb_14 := hb_14.sub s33;have hA := hA.sub s33;refine RD.back s33.agr ?_;refine RD.oneS 11 rfl ?_;refine RL.call rfl ok232 (ih j (by omega) y.k0 (itN y) (out1 ++ [placeR r1]) (left - sum - 1) w32 (hyo.kids _ (by simp [Node.kids])) (by omega) (by omega) (by omega) hp2 hbf hs hA) rfl rfl ?_;rintro vr w34 ⟨hv, hs1, ag⟩;have G := G.trans ag;have hbf := hbf.upd ag nfs;have hb_7 := hb_7.upd ag ns__7.symm;have hb_12 := hb_12.upd ag ns__12.symm;have hb_14 := hb_14.upd ag ns__14.symm;have hA := hA.updD ag hMs
              have hs := hs1
              have hml := hmF_le A j y.k0 (itN y) (out1 ++ [placeR r1]) 0 (left - sum - 1) (Int.le_refl _) (by omega) hp2
              obtain ⟨⟨m, o⟩, hm⟩ : ∃ p, p = hmF A j y.k0 (itN y) (out1 ++ [placeR r1]) 0 (left - sum - 1) := ⟨_, rfl⟩
              rw [← hm] at hv hs hml
              simp only [] at hv hs hml
              subst hv
              refine RD.backW rfl (ag.mono fun k _ e => .inl e) ?_;refine RD.tS 12 rfl (fun w' s' => .assign rfl) ?_;refine RD.done (by kernel_rfl) (RC.back ?_);refine RC.seq (RC.seq (RC.region rfl ?_));refine RL.mvS rfl ?_;refine RL.eS (.bin rfl rfl rfl) ?_;refine RL.mvS rfl ?_;refine RL.split 92 rfl (fun h36 => ?_) (fun h36 => ?_)
              ·
                have hres := hT.symm.trans (hmF_kid hr0 hy hnb hm.symm (.inl h36))
                refine RL.offs 3 rfl ?_;refine RL.eS (.pick_t rfl rfl) ?_;refine RL.mvS rfl ?_;refine RL.offs 5 rfl ?_;refine RL.eS (.pick_t rfl rfl) ?_;refine RL.nil (RC.back ?_);refine RC.cond_t rfl ?_;refine RC.seq (RC.region rfl ?_);refine RL.asS rfl ?_;refine RL.nil (RC.back ?_);refine RC.d1 10 rfl rfl rfl ?_
                rw [hres]
                exact ⟨rfl, hs, G⟩
              ·
                have hm0 := h36
                refine RL.eS (.loadR (y.cells) sh140 rfl hb_12.row rfl) ?_;refine RL.eS (.loadR ((hB1 y y.k0 y.k1).cells) sh140 rfl hb_14.row rfl) ?_;refine RL.eS (.neS (xs := y.cells) (ys := (hB1 y y.k0 y.k1).cells) fk140 eg140 sh140 rfl rfl rfl rfl rfl) ?_;refine RL.eS (.pick_f rfl rfl) ?_;refine RL.mvS rfl ?_;refine RL.splitB 97 rfl (fun h37 => ?_) (fun h37 => ?_)
                ·
                  have hres := hT.symm.trans (hmF_kid hr0 hy hnb hm.symm (.inr (.inl (fun e => by have h2 := h37; rw [eqL_cells, decide_eq_true ((hB1_iff hk6).2 e)] at h2; cases h2))))
                  refine RL.offs 5 rfl ?_;refine RL.eS (.pick_t rfl rfl) ?_;refine RL.nil (RC.back ?_);refine RC.cond_t rfl ?_;refine RC.seq (RC.region rfl ?_);refine RL.asS rfl ?_;refine RL.nil (RC.back ?_);refine RC.d1 10 rfl rfl rfl ?_
                  rw [hres]
                  exact ⟨rfl, hs, G⟩
                ·
                  have hbr : hBare y = y := (hB1_iff hk6).1 (by have h2 := h37; rw [eqL_cells] at h2; simpa using h2)
                  refine RL.mvS rfl ?_;refine RL.eS (.as (.bin rfl rfl rfl) (wi64 (y := m + 1) (by rfl) (by omega))) ?_;refine RL.eS (.field0 fo140_4 rfl) ?_;refine RL.eS (.load1 sh2 rfl (hb_12.cell rfl)) ?_;refine RL.eS (.bin rfl rfl rfl) ?_;refine RL.eS (.pick_f rfl rfl) ?_;refine RL.nil (RC.back ?_);refine RC.cond_dec rfl (fun h38 => ?_) (fun h38 => ?_)
                  ·
                    have hres := hT.symm.trans (hmF_kid hr0 hy hnb hm.symm (.inr (.inr h38)))
                    refine RC.seq (RC.region rfl ?_);refine RL.asS rfl ?_;refine RL.nil (RC.back ?_);refine RC.d1 10 rfl rfl rfl ?_
                    rw [hres]
                    exact ⟨rfl, hs, G⟩
                  ·
                    have hnx := hmF_next hr0 hy hnb hm.symm (fun e => e.elim hm0 (fun e => e.elim (fun e => e hbr) (fun e => h38 e)))
                    refine RC.skip (RC.back ?_);refine RC.draw rfl mxo (by kernel_rfl) ?_;refine RQ.ev (.move rfl) rfl rfl ?_;refine RQ.ev (.move rfl) rfl rfl ?_;refine RQ.ev (.as (.bin rfl rfl rfl) (wi64 (y := sum + m) (by rfl) (by omega))) rfl rfl ?_;refine RQ.ev (.as (.bin rfl rfl rfl) (wi64 (y := sum + m + 1) (by rfl) (by omega))) rfl rfl ?_;refine RQ.ev (.field0 fo140_5 rfl) rfl rfl ?_;refine RQ.ev (.indexArr ar138 rfl rfl (by omega)) rfl rfl ?_;refine RQ.ev (.load1 sh31 rfl (hb_12.cell rfl)) rfl rfl ?_;refine RQ.ev (.assign rfl) rfl rfl ?_;refine RQ.ev (.assign rfl) rfl rfl ?_;refine RQ.nil (fun w39 s40 => ?_);have G := G.trans s40.agr;have hbf := hbf.sub s40;have hs := hs.sub s40;have hb_7 := hb_7.sub s40;have hA := hA.sub s40
                    exact fun a ka => ⟨(j, y.k1, o, sum + m + 1), ⟨⟨hnx.symm.trans hT, by show j ≤ k; omega, by show 0 ≤ sum + m + 1; omega, by show sum + m + 1 ≤ left; omega, by show left - (sum + m + 1) < (j : Int); omega, hyo.kids _ (by simp [Node.kids]), hml.2.2⟩, hbf, hs, hb_7, hA, G⟩, by show j < j + 1; omega, ka.keep (keep_of (by repeat (first | exact trivial | refine And.intro rfl ?_)))⟩
  ·
    have hr0 : r1 = 0 := Decidable.not_not.1 h2
    have hres : hmF A k r b out 0 left = (sum, out1) := (by rw [← hT, hr0, hmF_0])
    refine RC.exit rfl (RC.back (RC.seq (RC.region rfl ?_)));refine RL.mvS rfl ?_;refine RL.asS rfl ?_;refine RL.nil (RC.back ?_);refine RC.d1 10 rfl rfl rfl ?_
    rw [hres]
    exact ⟨rfl, hs, G⟩
theorem topIt_N (A : Ar) (r : Int) : topIt A r = itN (getN A r) := by unfold topIt getN; cases getA A r <;> rfl
theorem topK1_N (A : Ar) (r : Int) : topK1 A r = (getN A r).k1 := by unfold topK1 getN; cases getA A r <;> rfl
noncomputable def allHp (A : Ar) (l : List Int) : Bool := aokB A && l.all (hpOk A)
theorem allHp_iff {A : Ar} {l : List Int} : allHp A l = true ↔ AOk A ∧ ∀ r ∈ l, ∃ P L, IsP A r P L := by
  unfold allHp
  rw [Bool.and_eq_true, List.all_eq_true, aokB_iff]
  exact and_congr_right fun _ => forall_congr' fun r => imp_congr_right fun _ => hpOk_iff A r
theorem hpTake {A : Ar} {l : List Int} {i : Nat} {y : Int} (hy : l[i]? = some y) (hp : (l.take i).all (hpOk A) = true) (h : hpOk A y = true) : (l.take (i + 1)).all (hpOk A) = true := by
  have hi : i < l.length := lt_of_get hy
  rw [List.take_add_one, hy, List.all_append, hp]; simp [h]
theorem hpNo {A : Ar} {l : List Int} {i : Nat} {y : Int} (hy : l[i]? = some y) (h : hpOk A y = false) : l.all (hpOk A) = false := by
  rw [Bool.eq_false_iff]
  intro e
  have := List.all_eq_true.1 e y (List.mem_of_getElem? hy)
  rw [h] at this; cases this
set_option maxHeartbeats 1000000 in
theorem c_hpR (A : Ar) (na fa : Option Addr) (nc fc : Nat) (l : List Int) (pa : Option Addr) (pc : Nat) (hl : l.length ≤ 10000) (hli : ∀ x ∈ l, U64 x) (w : World) (hA : ArR w na fa A) (hP : Sl w pa 1 (l.map fun x => [u6 x])) :
  FC Tryz.prog 170 [arV na fa nc fc A, .slice pa l.length pc] w (Val (.bool (allHp A l)) w) := by
 have hN := hA.nodes
 have hFr := hA.free
 have hF : Ft (· < w.heap.size) (fun u => ArR u na fa A) w := Ft.of_sub fun u s => hA.sub s
 refine FC.intro Tryz.func170 rfl Tryz.ntmps170 rfl ?_
 have S := Sub.refl w
 refine RC.seq (RC.region rfl ?_);refine RL.box rfl rfl rfl (fun b_2 w_2 e_2 z_2 hb_2 s_2 => ?_);have S := S.trans s_2
 have hb_2 : Has w_2 b_2 ([.slice na A.nodes.length nc, .slice fa A.free.length fc]) _ := hb_2
 refine RL.asS rfl ?_;refine RL.nil (RC.back (RC.seq (RC.region rfl ?_)));refine RL.eS (.loadR ([.slice na A.nodes.length nc, .slice fa A.free.length fc]) sh26 rfl hb_2.row rfl) ?_;refine RL.eS (.buildS ze244 pl244 rfl rfl) ?_;refine RL.box rfl rfl rfl (fun b_11 w_11 e_11 z_11 hb_11 s_11 => ?_);have S := S.trans s_11;have hb_2 := hb_2.sub s_11
 have hb_11 : Has w_11 b_11 (wvC na fa nc fc A 0) 244 := hb_11
 refine RL.asS rfl ?_;refine RL.nil (RC.back (RC.seq (RC.seq (RC.region rfl ?_))));refine RL.eS (.loadR ([.slice na A.nodes.length nc, .slice fa A.free.length fc]) sh26 rfl hb_2.row rfl) ?_;refine RL.call rfl ok109 (c_aRight A na fa nc fc w_11 (hA.sub S)) rfl rfl ?_;rintro _ w1 ⟨rfl, s2⟩;have S := S.trans s2;have hb_2 := hb_2.sub s2;have hb_11 := hb_11.sub s2;refine RL.eS (.not rfl) ?_;refine RL.nil (RC.back ?_);refine RC.cond rfl (fun h3 => ?_) (fun h3 => ?_)
 ·
  have hno : aokB A = false := (by simpa using h3)
  refine RC.seq (RC.region rfl ?_);refine RL.asS rfl ?_;refine RL.nil (RC.back ?_);refine RC.d1 4 rfl rfl rfl ?_
  rw [allHp, hno]
  exact ⟨rfl, S⟩
 ·
  have hokb : aokB A = true := (by simpa using h3)
  have hok : AOk A := (aokB_iff A).1 hokb
  have hmost := hok.most
  refine RC.skip (RC.back (RC.seq (RC.seq (RC.region rfl ?_))));refine RL.mvS rfl ?_;refine RL.eS (.len sl73 rfl) ?_;refine RL.mvS rfl ?_;refine RL.nil (RC.back (RC.block ?_));refine RC.loop (α := Nat) (fun i => [(2, .pointer (some ⟨b_2, 0, none⟩)), (5, .pointer (some ⟨b_11, 0, none⟩)), (15, .slice pa l.length pc), (16, .int .i64 (l.length : Int)), (17, .int .i64 (i : Int))]) (fun i w4 => i ≤ l.length ∧ (l.take i).all (hpOk A) = true ∧ Has w4 b_2 [.slice na A.nodes.length nc, .slice fa A.free.length fc] 26 ∧ Has w4 b_11 (wvC na fa nc fc A 0) 244 ∧ Sub w w4) (fun i => l.length - i) 0 (keep_of (by repeat (first | exact trivial | refine And.intro rfl ?_))) (⟨Nat.zero_le _, rfl, hb_2, hb_11, S⟩) (fun i w4 hJ => ?_)
  obtain ⟨hi, hp, hb_2, hb_11, S⟩ := hJ
  refine RC.seq (RC.region rfl ?_);refine RL.eS (.bin rfl rfl rfl) ?_;refine RL.nil (RC.back (RC.seq ?_));refine RC.cond_dec rfl (fun h5 => ?_) (fun h5 => ?_)
  ·
   obtain ⟨y, hy⟩ := getSome (l := l) (i := i) (by omega)
   have hyu := hli y (List.mem_of_getElem? hy)
   refine RC.skip (RC.back (RC.seq (RC.block (RC.seq (RC.region rfl ?_)))));refine RL.eS (.indexS sl73 rfl rfl (by omega) (hP.is (i := 0) (by simp only [List.length_map, List.length_cons, List.length_nil]; omega))) ?_;refine RL.eS (.load1 sh31 rfl ((hP.sub S).one (enc := u6) (i := i) hy)) ?_;refine RL.asS rfl ?_;refine RL.nil (RC.back (RC.seq (RC.region rfl ?_)));refine RL.mvS rfl ?_;refine RL.mvS rfl ?_;refine RL.call rfl ok149 (c_hpget A na fa nc fc 0 b_11 y hyu w4 hb_11 (hA.sub S)) rfl rfl ?_;rintro _ w6 ⟨rfl, s7⟩;have S := S.trans s7;have hb_2 := hb_2.sub s7;have hb_11 := hb_11.sub s7;refine RL.alloc ze140 rfl rfl (fun b_8 w_8 e_8 z_8 hb_8 s_8 => ?_);have ge_8 := S.le e_8;have n_2__8 := hb_2.ne e_8;have n_11__8 := hb_11.ne e_8;have S := S.trans s_8;have hb_2 := hb_2.sub s_8;have hb_11 := hb_11.sub s_8;refine RL.stS sh140 rfl rfl rfl hb_8 (fun w8 z8 hb_8 a8 => ?_);have S := S.upd a8 ge_8;have hb_2 := hb_2.upd a8 n_2__8;have hb_11 := hb_11.upd a8 n_11__8;refine RL.nil (RC.back (RC.seq ?_));refine RC.drawD (fun k => False) [8] w8.heap.size 16 rfl rfl mxo (fun w9 s10 => ?_)
   have hNN : ∀ k, ((False) ∨ w8.heap.size ≤ k) → w.heap.size ≤ k := fun k e => e.elim (fun e => e.elim) (fun e => Nat.le_trans S.size e)
   have hN0 : ∀ k, w8.heap.size ≤ k → w.heap.size ≤ k := fun k e => Nat.le_trans S.size e
   have ltD_b_2 := hb_2.lt;have ltD_b_8 := hb_8.lt;have szD := Nat.le_refl w8.heap.size;have S := S.trans s10;have hb_2 := hb_2.sub s10;have hb_11 := hb_11.sub s10;have hb_8 := hb_8.sub s10;have szD := Nat.le_trans szD s10.size;refine RD.tS 0 rfl (fun w' s' => .move rfl) ?_;refine RD.tS 1 rfl (fun w' s' => .move rfl) ?_;refine RD.tS 2 rfl (fun w' s' => .loadR (_) sh140 rfl (hb_8.step s' (fun e => e.elim (fun e => e.elim) (fun e => Nat.not_le.2 ltD_b_8 e))).row rfl) ?_;refine RD.tS 4 rfl (fun w' s' => .field0 fo26_0 rfl) ?_;refine RD.tS 5 rfl (fun w' s' => .load1 sh23 rfl ((hb_2.step s' (fun e => e.elim (fun e => e.elim) (fun e => Nat.not_le.2 ltD_b_2 e))).cell rfl)) ?_;refine RD.tS 6 rfl (fun w' s' => .len sl23 rfl) ?_;refine RD.all [3, 7] (by kernel_rfl) rfl (RDs.cons rfl ?_ (RDs.cons rfl ?_ (RDs.nil)))
   ·
    refine RL.call rfl ok102 (c_hitem (getN A y) w9) rfl rfl ?_;rintro _ w11 ⟨rfl, s12⟩;have S := S.trans s12;have hb_2 := hb_2.sub s12;have hb_11 := hb_11.sub s12;have hb_8 := hb_8.sub s12;have szD := Nat.le_trans szD s12.size;refine RD.back s12.agr ?_;refine RD.oneS 7 rfl ?_;refine RL.makeSlice sl253 ze4 rfl rfl rfl rfl (by omega) rfl rfl (fun b_31 w_31 e_31 z_31 hb_31 s_31 => ?_)
    have fr_b_31 : w8.heap.size ≤ b_31 := by rw [e_31]; exact szD
    have ge_31 := S.le e_31;have n_2__31 := hb_2.ne e_31;have n_11__31 := hb_11.ne e_31;have n_8__31 := hb_8.ne e_31;have S := S.trans s_31;have hb_2 := hb_2.sub s_31;have hb_11 := hb_11.sub s_31;have hb_8 := hb_8.sub s_31;have szD := Nat.le_trans szD s_31.size
    have hb_31 : Has w_31 b_31 ((flagsO A.nodes.length []).map Value.bool) 4 := by have := hb_31; rw [flagsO_nil, List.map_replicate]; rw [Int.toNat_natCast] at this; rw [← rep1]; exact this
    refine RD.back s_31.agr ?_;refine RD.oneS 8 rfl ?_;refine RL.call rfl ok232 (c_pmay A na fa nc fc 0 b_11 b_31 n_11__31 (· < w.heap.size) (fun k hk e => by have := ge_31; omega) hmost 201 y (itN (getN A y)) [] 200 w_31 hyu (by decide) (by decide) (by decide) (Pl.nil A) hb_11 hb_31 (hF.sub S)) rfl rfl ?_;rintro vr w13 ⟨hv, _, ag⟩;have S := S.upd ag ge_31;have hb_2 := hb_2.upd ag n_2__31;have hb_11 := hb_11.upd ag n_11__31;have hb_8 := hb_8.upd ag n_8__31;have szD := Nat.le_trans szD ag.size
    subst hv
    refine RD.backW rfl (ag.mono fun k _ e => .inr (e ▸ fr_b_31)) ?_;refine RD.tS 9 rfl (fun w' s' => .bin rfl rfl rfl) ?_;refine RD.tS 10 rfl (fun w' s' => .move rfl) ?_;refine RD.split 34 rfl (fun h15 => ?_) (fun h15 => ?_)
    ·
     have hbad : hpOk A y = false := (by unfold hpOk; rw [topIt_N, decide_eq_true h15]; rfl)
     refine RD.takeOffS 11 rfl (by kernel_rfl) rfl rfl ?_;refine RD.takeOffS 12 rfl (by kernel_rfl) rfl rfl ?_;refine RD.takeOffS 13 rfl (by kernel_rfl) rfl rfl ?_;refine RD.takeOffS 14 rfl (by kernel_rfl) rfl rfl ?_;refine RD.tS 15 rfl (fun w' s' => .pick_t rfl rfl) ?_;refine RD.done (by kernel_rfl) (RC.back ?_);refine RC.cond_t rfl ?_;refine RC.seq (RC.region rfl ?_);refine RL.asS rfl ?_;refine RL.nil (RC.back ?_);refine RC.d1 4 rfl rfl rfl ?_
     rw [allHp, hpNo hy hbad, Bool.and_false]
     exact ⟨rfl, S⟩
    ·
     have h34 := h15
     refine RD.tS 11 rfl (fun w' s' => .field0 fo140_5 rfl) ?_;refine RD.tS 12 rfl (fun w' s' => .indexArr ar138 rfl rfl (by omega)) ?_;refine RD.tS 13 rfl (fun w' s' => .load1 sh31 rfl ((hb_8.step s' (fun e => e.elim (fun e => e.elim) (fun e => Nat.not_le.2 ltD_b_8 e))).cell rfl)) ?_;refine RD.tS 14 rfl (fun w' s' => .bin rfl rfl rfl) ?_;refine RD.tS 15 rfl (fun w' s' => .pick_f rfl rfl) ?_;refine RD.done (by kernel_rfl) (RC.back ?_);refine RC.cond_dec rfl (fun h16 => ?_) (fun h16 => ?_)
     ·
      have hbad : hpOk A y = false := (by unfold hpOk; rw [topK1_N, decide_eq_true h16, Bool.or_true]; rfl)
      refine RC.seq (RC.region rfl ?_);refine RL.asS rfl ?_;refine RL.nil (RC.back ?_);refine RC.d1 4 rfl rfl rfl ?_
      rw [allHp, hpNo hy hbad, Bool.and_false]
      exact ⟨rfl, S⟩
     ·
      have hgood : hpOk A y = true := (by unfold hpOk; rw [topIt_N, topK1_N, decide_eq_false h34, decide_eq_false h16]; rfl)
      refine RC.skip (RC.back (RC.region rfl ?_));refine RL.eS (.as (.bin rfl rfl rfl) (wi64 (y := ((i + 1 : Nat) : Int)) (by omega) (by omega))) ?_;refine RL.mvS rfl ?_
      exact RL.nil (fun a ka => ⟨i + 1, ⟨by omega, hpTake hy hp hgood, hb_2, hb_11, S⟩, by omega, ka.keep (keep_of (by repeat (first | exact trivial | refine And.intro rfl ?_)))⟩)
   ·
    refine RL.makeSlice sl253 ze4 rfl rfl rfl rfl (by omega) rfl rfl (fun b_31 w_31 e_31 z_31 hb_31 s_31 => ?_)
    have fr_b_31 : w8.heap.size ≤ b_31 := by rw [e_31]; exact szD
    have ge_31 := S.le e_31;have n_2__31 := hb_2.ne e_31;have n_11__31 := hb_11.ne e_31;have n_8__31 := hb_8.ne e_31;have S := S.trans s_31;have hb_2 := hb_2.sub s_31;have hb_11 := hb_11.sub s_31;have hb_8 := hb_8.sub s_31
    have hb_31 : Has w_31 b_31 ((flagsO A.nodes.length []).map Value.bool) 4 := by have := hb_31; rw [flagsO_nil, List.map_replicate]; rw [Int.toNat_natCast] at this; rw [← rep1]; exact this
    refine RD.back s_31.agr ?_;refine RD.oneS 3 rfl ?_;refine RL.call rfl ok102 (c_hitem (getN A y) w_31) rfl rfl ?_;rintro _ w17 ⟨rfl, s18⟩;have S := S.trans s18;have hb_2 := hb_2.sub s18;have hb_11 := hb_11.sub s18;have hb_8 := hb_8.sub s18;have hb_31 := hb_31.sub s18;refine RD.back s18.agr ?_;refine RD.oneS 8 rfl ?_;refine RL.call rfl ok232 (c_pmay A na fa nc fc 0 b_11 b_31 n_11__31 (· < w.heap.size) (fun k hk e => by have := ge_31; omega) hmost 201 y (itN (getN A y)) [] 200 w17 hyu (by decide) (by decide) (by decide) (Pl.nil A) hb_11 hb_31 (hF.sub S)) rfl rfl ?_;rintro vr w19 ⟨hv, _, ag⟩;have S := S.upd ag ge_31;have hb_2 := hb_2.upd ag n_2__31;have hb_11 := hb_11.upd ag n_11__31;have hb_8 := hb_8.upd ag n_8__31
    subst hv
    refine RD.backW rfl (ag.mono fun k _ e => .inr (e ▸ fr_b_31)) ?_;refine RD.tS 9 rfl (fun w' s' => .bin rfl rfl rfl) ?_;refine RD.tS 10 rfl (fun w' s' => .move rfl) ?_;refine RD.split 34 rfl (fun h21 => ?_) (fun h21 => ?_)
    ·
     have hbad : hpOk A y = false := (by unfold hpOk; rw [topIt_N, decide_eq_true h21]; rfl)
     refine RD.takeOffS 11 rfl (by kernel_rfl) rfl rfl ?_;refine RD.takeOffS 12 rfl (by kernel_rfl) rfl rfl ?_;refine RD.takeOffS 13 rfl (by kernel_rfl) rfl rfl ?_;refine RD.takeOffS 14 rfl (by kernel_rfl) rfl rfl ?_;refine RD.tS 15 rfl (fun w' s' => .pick_t rfl rfl) ?_;refine RD.done (by kernel_rfl) (RC.back ?_);refine RC.cond_t rfl ?_;refine RC.seq (RC.region rfl ?_);refine RL.asS rfl ?_;refine RL.nil (RC.back ?_);refine RC.d1 4 rfl rfl rfl ?_
     rw [allHp, hpNo hy hbad, Bool.and_false]
     exact ⟨rfl, S⟩
    ·
     have h34 := h21
     refine RD.tS 11 rfl (fun w' s' => .field0 fo140_5 rfl) ?_;refine RD.tS 12 rfl (fun w' s' => .indexArr ar138 rfl rfl (by omega)) ?_;refine RD.tS 13 rfl (fun w' s' => .load1 sh31 rfl ((hb_8.step s' (fun e => e.elim (fun e => e.elim) (fun e => Nat.not_le.2 ltD_b_8 e))).cell rfl)) ?_;refine RD.tS 14 rfl (fun w' s' => .bin rfl rfl rfl) ?_;refine RD.tS 15 rfl (fun w' s' => .pick_f rfl rfl) ?_;refine RD.done (by kernel_rfl) (RC.back ?_);refine RC.cond_dec rfl (fun h22 => ?_) (fun h22 => ?_)
     ·
      have hbad : hpOk A y = false := (by unfold hpOk; rw [topK1_N, decide_eq_true h22, Bool.or_true]; rfl)
      refine RC.seq (RC.region rfl ?_);refine RL.asS rfl ?_;refine RL.nil (RC.back ?_);refine RC.d1 4 rfl rfl rfl ?_
      rw [allHp, hpNo hy hbad, Bool.and_false]
      exact ⟨rfl, S⟩
     ·
      have hgood : hpOk A y = true := (by unfold hpOk; rw [topIt_N, topK1_N, decide_eq_false h34, decide_eq_false h22]; rfl)
      refine RC.skip (RC.back (RC.region rfl ?_));refine RL.eS (.as (.bin rfl rfl rfl) (wi64 (y := ((i + 1 : Nat) : Int)) (by omega) (by omega))) ?_;refine RL.mvS rfl ?_
      exact RL.nil (fun a ka => ⟨i + 1, ⟨by omega, hpTake hy hp hgood, hb_2, hb_11, S⟩, by omega, ka.keep (keep_of (by repeat (first | exact trivial | refine And.intro rfl ?_)))⟩)
  ·
   obtain rfl : i = l.length := (by omega)
   rw [List.take_length] at hp
   refine RC.exit rfl (RC.back (RC.seq (RC.region rfl ?_)));refine RL.asS rfl ?_;refine RL.nil (RC.back ?_);refine RC.d1 4 rfl rfl rfl ?_
   rw [allHp, hp, hokb]
   exact ⟨rfl, S⟩
theorem c_hpRight (A : Ar) (na fa : Option Addr) (nc fc : Nat) (r : Int) (hr : U64 r) (w : World) (hA : ArR w na fa A) :
  FC Tryz.prog 101 [arV na fa nc fc A, .int .u64 r] w (Val (.bool (allHp A [r])) w) := by
 refine FC.intro Tryz.func101 rfl Tryz.ntmps101 rfl ?_
 have S := Sub.refl w
 refine RC.seq (RC.region rfl ?_);refine RL.box rfl rfl rfl (fun b_2 w_2 e_2 z_2 hb_2 s_2 => ?_);have S := S.trans s_2
 have hb_2 : Has w_2 b_2 ([.slice na A.nodes.length nc, .slice fa A.free.length fc]) _ := hb_2
 refine RL.asS rfl ?_;refine RL.nil (RC.back (RC.seq (RC.region rfl ?_)));refine RL.eS (.loadR ([.slice na A.nodes.length nc, .slice fa A.free.length fc]) sh26 rfl hb_2.row rfl) ?_;refine RL.mvS rfl ?_;refine RL.buildSlice1 sl73 _ ze31 rfl rfl rfl rfl rfl rfl rfl (fun b_7 w_7 e_7 z_7 hb_7 s_7 => ?_);have S := S.trans s_7;refine RL.call rfl ok170 (c_hpR A na fa nc fc [r] (some ⟨b_7, 0, none⟩) 1 (by simp) (fun x hx => by rw [List.mem_singleton.1 hx]; exact hr) w_7 (hA.sub S) (Has.sl1 (enc := u6) (l := [r]) hb_7)) rfl rfl ?_;rintro _ w1 ⟨rfl, s2⟩;have S := S.trans s2;refine RL.asS rfl ?_;refine RL.nil (RC.back ?_);refine RC.d1 4 rfl rfl rfl ?_
 exact ⟨rfl, S⟩
theorem c_push {σ : Type} (l : Nat) (H : σ → Bool → (Nat → Prop) → World → Prop) (step : σ → It → σ × Bool) (cnt : σ → Nat) (N : Nat) (hc : ∀ s x, cnt (step s x).1 ≤ cnt s + 1) (hT : YT Tryz.prog l It.val It.ok cnt N H step)
    (A : Ar) (na fa : Option Addr) (nc fc : Nat) (r : Int) (L : List It) (hL : IsT A r L) : ∀ (s : σ) (C M : Nat → Prop) (w : World), U64 r → cnt s + L.length ≤ N → Ft M (fun u => ArR u na fa A) w → (∀ k, M k → ¬ C k) → Ft C (H s true C) w →
    FC Tryz.prog 166 [arV na fa nc fc A, .int .u64 r, .func (.yield l) #[] #[]] w (fun v w' => ∃ C', v = .bool (pushF step s L).2 ∧ Ft C' (H (pushF step s L).1 (pushF step s L).2 C') w' ∧ Agr C w w' ∧ Up C w C') := by
  induction hL with
  | nil =>
    intro s C M w hr hN hA hMC hH
    refine FC.introY Tryz.func166 rfl Tryz.ntmps166 rfl ?_
    have G : Agr C w w := Agr.refl _ _
    refine RC.seq (RC.region rfl ?_);refine RL.box rfl rfl rfl (fun b_3 w_3 e_3 z_3 hb_3 s_3 => ?_)
    have geG_3 := agLe G e_3
    have G := G.trans s_3.agr;have hH := hH.sub s_3
    have hb_3 : Has w_3 b_3 ([.slice na A.nodes.length nc, .slice fa A.free.length fc]) _ := hb_3
    refine RL.asS rfl ?_;refine RL.nil (RC.back (RC.seq (RC.seq (RC.region rfl ?_))));refine RL.mvS rfl ?_;refine RL.eS (.bin rfl rfl rfl) ?_;refine RL.nil (RC.back ?_);refine RC.cond_dec rfl (fun h1 => ?_) (fun h1 => ?_)
    ·
      refine RC.seq (RC.region rfl ?_);refine RL.asS rfl ?_;refine RL.nil (RC.back ?_);refine RC.d1 6 rfl rfl rfl ?_
      exact ⟨C, rfl, hH, G, Up.refl _ _⟩
    ·
      exact absurd rfl h1
  | @node r g a b it L R h1 h2 h3 h4 h5 ih1 ih2 =>
    intro s C M w hr hN hA hMC hH
    obtain ⟨x, hx, hxi, hxa, hxb⟩ : ∃ x, getA A r = some x ∧ (⟨x.n, x.v⟩ : It) = it ∧ x.k0 = a ∧ x.k1 = b := ⟨_, h1, rfl, rfl, rfl⟩
    have hxo := hA.now.nok x (getA_nok hx)
    have hr0 : ¬ r = 0 := fun e => by rw [e, getA_0] at hx; cases hx
    have hCw : ∀ k, C k → k < w.heap.size := hH.lt
    clear h1
    rw [List.length_append, List.length_cons] at hN
    have hN1 := pushF_cnt hc L s
    have hN2 := hc (pushF step s L).1 it
    subst hxi hxa hxb
    refine FC.introY Tryz.func166 rfl Tryz.ntmps166 rfl ?_
    have G : Agr C w w := Agr.refl _ _
    refine RC.seq (RC.region rfl ?_);refine RL.box rfl rfl rfl (fun b_3 w_3 e_3 z_3 hb_3 s_3 => ?_)
    have geG_3 := agLe G e_3
    have G := G.trans s_3.agr;have hA := hA.sub s_3;have hH := hH.sub s_3
    have hb_3 : Has w_3 b_3 ([.slice na A.nodes.length nc, .slice fa A.free.length fc]) _ := hb_3
    refine RL.asS rfl ?_;refine RL.nil (RC.back (RC.seq (RC.seq (RC.region rfl ?_))));refine RL.mvS rfl ?_;refine RL.eS (.bin rfl rfl rfl) ?_;refine RL.nil (RC.back ?_);refine RC.cond_dec rfl (fun h1 => ?_) (fun h1 => ?_)
    ·
      exact absurd h1 hr0
    ·
      refine RC.skip (RC.back (RC.seq (RC.region rfl ?_)));refine RL.eS (.loadR ([.slice na A.nodes.length nc, .slice fa A.free.length fc]) sh26 rfl hb_3.row rfl) ?_;refine RL.mvS rfl ?_;refine RL.call rfl ok125 (c_aGet A na fa nc fc r hr w_3 hA.now) rfl rfl ?_;rintro _ w2 ⟨rfl, s3⟩;have G := G.trans s3.agr;have hA := hA.sub s3;have hH := hH.sub s3;have hb_3 := hb_3.sub s3;refine RL.eS (.as (v' := .tuple #[x.val, .int .i64 0]) (.move rfl) (by rw [getV_yes hx])) ?_;refine RL.eS (.extract rfl rfl) ?_;refine RL.eS (.extract rfl rfl) ?_;refine RL.alloc ze140 rfl rfl (fun b_7 w_7 e_7 z_7 hb_7 s_7 => ?_);have n_3__7 := hb_3.ne e_7;have d_hA_b_7 := hA.neNew e_7;have d_hH_b_7 := hH.neNew e_7
      have geG_7 := agLe G e_7
      have G := G.trans s_7.agr;have hA := hA.sub s_7;have hH := hH.sub s_7;have hb_3 := hb_3.sub s_7;refine RL.stS sh140 rfl rfl rfl hb_7 (fun w4 z4 hb_7 a4 => ?_)
      have G := agNew G a4 geG_7
      have hA := hA.updD a4 d_hA_b_7;have hH := hH.updD a4 d_hH_b_7;have hb_3 := hb_3.upd a4 n_3__7
      have hb_7 : Has w4 b_7 (x.cells) _ := hb_7.now (by kernel_rfl)
      refine RL.asS rfl ?_;refine RL.nil (RC.back (RC.seq (RC.region rfl ?_)));refine RL.eS (.loadR ([.slice na A.nodes.length nc, .slice fa A.free.length fc]) sh26 rfl hb_3.row rfl) ?_;refine RL.eS (.field0 fo140_5 rfl) ?_;refine RL.eS (.indexArr ar138 rfl rfl (by omega)) ?_;refine RL.eS (.load1 sh31 rfl (hb_7.cell rfl)) ?_;refine RL.mvS rfl ?_;refine RL.call rfl ok166 (ih1 s C M w4 (hxo.kids _ (by simp [Node.kids])) (by omega) hA hMC hH) rfl rfl ?_;rintro _ w5 ⟨C1, rfl, hH1, ag, up⟩
      have hG3 := geG_3
      have hG7 := geG_7
      have nb3 : ¬ C1 b_3 := up.not hb_3.lt (fun e => by have := hCw _ e; omega)
      have nb7 : ¬ C1 b_7 := up.not hb_7.lt (fun e => by have := hCw _ e; omega)
      have hMC1 : ∀ k, M k → ¬ C1 k := fun k hk => up.not (hA.lt k hk) (hMC k hk)
      have hb_3 := hb_3.step ag (fun e => by have := hCw _ e; omega);have hb_7 := hb_7.step ag (fun e => by have := hCw _ e; omega)
      have up := up.le G.size
      have G := G.trans ag;have hA := hA.step ag hMC
      have hH := hH1
      refine RL.mvS rfl ?_;refine RL.splitB 23 rfl (fun h7 => ?_) (fun h7 => ?_)
      ·
        have q1 := h7
        rw [q1] at hH
        refine RL.mvS rfl ?_;refine RL.eS (.field0 fo140_2 rfl) ?_;refine RL.eS (.load1 sh2 rfl (hb_7.cell rfl)) ?_;refine RL.eS (.field0 fo140_3 rfl) ?_;refine RL.eS (.load1 sh2 rfl (hb_7.cell rfl)) ?_;refine RL.eS (.as (v' := (⟨x.n, x.v⟩ : It).val) (.buildS ze51 pl51 rfl rfl) (by rfl)) ?_;refine RL.yield rfl rfl (hT (pushF step s L).1 ⟨x.n, x.v⟩ C1 w5 ⟨hxo.n, hxo.v⟩ (by omega) hH) rfl rfl ?_;rintro _ w8 ⟨C2, rfl, hH2, ag2, up2⟩
        have nb3' : ¬ C2 b_3 := up2.not hb_3.lt nb3
        have nb7' : ¬ C2 b_7 := up2.not hb_7.lt nb7
        have hMC2 : ∀ k, M k → ¬ C2 k := fun k hk => up2.not (hA.lt k hk) (hMC1 k hk)
        have hb_3 := hb_3.step ag2 nb3;have hb_7 := hb_7.step ag2 nb7
        have up2 := up.trans (up2.le G.size)
        have G := G.up up ag2
        have hA := hA.step ag2 hMC1
        have hH := hH2
        refine RL.eS (.pick_t rfl rfl) ?_;refine RL.mvS rfl ?_;refine RL.splitB 32 rfl (fun h10 => ?_) (fun h10 => ?_)
        ·
          have q2 := h10
          rw [q2] at hH
          refine RL.eS (.loadR ([.slice na A.nodes.length nc, .slice fa A.free.length fc]) sh26 rfl hb_3.row rfl) ?_;refine RL.eS (.field0 fo140_5 rfl) ?_;refine RL.eS (.indexArr ar138 rfl rfl (by omega)) ?_;refine RL.eS (.load1 sh31 rfl (hb_7.cell rfl)) ?_;refine RL.mvS rfl ?_;refine RL.call rfl ok166 (ih2 _ C2 M w8 (hxo.kids _ (by simp [Node.kids])) (by omega) hA hMC2 hH) rfl rfl ?_;rintro _ w11 ⟨C3, rfl, hH3, ag3, up3⟩
          have up3 := up2.trans (up3.le G.size)
          have G := G.up up2 ag3
          refine RL.eS (.pick_t rfl rfl) ?_;refine RL.asS rfl ?_;refine RL.nil (RC.back ?_);refine RC.d1 6 rfl rfl rfl ?_
          rw [pushF_app q1, pushF_t q2]
          exact ⟨C3, rfl, hH3, G, up3⟩
        ·
          have q2 := h10
          refine RL.offs 6 rfl ?_;refine RL.eS (.pick_f rfl rfl) ?_;refine RL.asS rfl ?_;refine RL.nil (RC.back ?_);refine RC.d1 6 rfl rfl rfl ?_
          rw [q2] at hH
          rw [pushF_app q1, pushF_f q2]
          exact ⟨C2, rfl, hH, G, up2⟩
      ·
        have q1 := h7
        refine RL.offs 7 rfl ?_;refine RL.eS (.pick_f rfl rfl) ?_;refine RL.mvS rfl ?_;refine RL.offs 6 rfl ?_;refine RL.eS (.pick_f rfl rfl) ?_;refine RL.asS rfl ?_;refine RL.nil (RC.back ?_);refine RC.d1 6 rfl rfl rfl ?_
        rw [pushF_l q1]
        exact ⟨C1, by rw [q1]; rfl, hH, G, up⟩
theorem c_items1 {σ : Type} (l : Nat) (H : σ → Bool → (Nat → Prop) → World → Prop) (step : σ → It → σ × Bool) (cnt : σ → Nat) (N : Nat) (hc : ∀ s x, cnt (step s x).1 ≤ cnt s + 1) (hT : YT Tryz.prog l It.val It.ok cnt N H step)
  (A : Ar) (na fa : Option Addr) (nc fc : Nat) (r : Int) (L : List It) (hL : IsT A r L) (s : σ) (C M : Nat → Prop) (b2 b3 : Nat) (w : World) (hr : U64 r) (hN : cnt s + L.length ≤ N) (hA : Ft M (fun u => ArR u na fa A) w) (hMC : ∀ k, M k → ¬ C k) (hH : Ft C (H s true C) w)
  (h2 : Has w b2 [.slice na A.nodes.length nc, .slice fa A.free.length fc] 26) (h3 : Has w b3 [.int .u64 r] 31) :
  FC Tryz.prog 165 [.func (.yield l) #[] #[], .pointer (some ⟨b2, 0, none⟩), .pointer (some ⟨b3, 0, none⟩)] w (fun _ w' => ∃ C', Ft C' (H (pushF step s L).1 (pushF step s L).2 C') w' ∧ Agr C w w' ∧ Up C w C') := by
 refine FC.intro Tryz.func165 rfl Tryz.ntmps165 rfl ?_
 refine RC.region rfl ?_;refine RL.eS (.loadR ([.slice na A.nodes.length nc, .slice fa A.free.length fc]) sh26 rfl h2.row rfl) ?_;refine RL.eS (.load1 sh31 rfl (h3.cell rfl)) ?_;refine RL.mvS rfl ?_;refine RL.call rfl ok166 (c_push l H step cnt N hc hT A na fa nc fc r L hL s C M w hr hN hA hMC hH) rfl rfl ?_;rintro _ w1 ⟨C1, rfl, hH1, ag, up⟩;refine RL.nil ?_
 refine fun a ka => ⟨ka.defers, _, run_results (rs := []) (vs := []) ka rfl trivial, ?_⟩
 exact ⟨C1, hH1, ag, up⟩
theorem c_items (A : Ar) (na fa : Option Addr) (nc fc : Nat) (r : Int) (w : World) :
  FC Tryz.prog 96 [arV na fa nc fc A, .int .u64 r] w (fun v w' => ∃ b2 b3, v = .func (.func 165) #[] #[.pointer (some ⟨b2, 0, none⟩), .pointer (some ⟨b3, 0, none⟩)] ∧ Has w' b2 [.slice na A.nodes.length nc, .slice fa A.free.length fc] 26 ∧ Has w' b3 [.int .u64 r] 31 ∧ Sub w w') := by
 refine FC.intro Tryz.func96 rfl Tryz.ntmps96 rfl ?_
 have S := Sub.refl w
 refine RC.seq (RC.region rfl ?_);refine RL.box rfl rfl rfl (fun b_2 w_2 e_2 z_2 hb_2 s_2 => ?_);have S := S.trans s_2
 have hb_2 : Has w_2 b_2 ([.slice na A.nodes.length nc, .slice fa A.free.length fc]) _ := hb_2
 refine RL.box rfl rfl rfl (fun b_3 w_3 e_3 z_3 hb_3 s_3 => ?_);have S := S.trans s_3;have hb_2 := hb_2.sub s_3;refine RL.asS rfl ?_;refine RL.nil (RC.back (RC.seq (RC.region rfl ?_)));refine RL.eS (.func (xs := []) (ys := [_, _]) rfl rfl) ?_;refine RL.asS rfl ?_;refine RL.nil (RC.back ?_);refine RC.d1 4 rfl rfl rfl ?_
 exact ⟨b_2, b_3, rfl, hb_2, hb_3, S⟩
def inR (low high : Int) (l : List It) : List It := l.filter fun x => decide (low ≤ x.k ∧ x.k ≤ high)
def stAll (low high : Int) (s : List It) (x : It) : List It × Bool := if x.k > high then (s, false) else if low ≤ x.k then (s ++ [x], true) else (s, true)
theorem stAll_cnt (low high : Int) (s : List It) (x : It) : (stAll low high s x).1.length ≤ s.length + 1 := by
  unfold stAll
  split
  · simp
  · split <;> simp
theorem push_all {low high : Int} : ∀ {l : List It}, Srt l → ∀ s, (pushF (stAll low high) s l).1 = s ++ inR low high l
  | [], _, s => by simp [pushF, inR]
  | x :: l, h, s => by
    have h2 := List.pairwise_cons.1 h
    rw [pushF]
    by_cases q : x.k > high
    · have e : stAll low high s x = (s, false) := if_pos q
      rw [e]
      have : inR low high (x :: l) = [] := by
        unfold inR
        rw [List.filter_eq_nil_iff]
        intro y hy
        rcases List.mem_cons.1 hy with rfl | hy
        · simp; omega
        · have := h2.1 y hy; simp; omega
      simp [this]
    · by_cases q2 : low ≤ x.k
      · have e : stAll low high s x = (s ++ [x], true) := by rw [stAll, if_neg q, if_pos q2]
        rw [e, if_pos rfl, push_all h2.2]
        have : inR low high (x :: l) = x :: inR low high l := by
          unfold inR; rw [List.filter_cons, if_pos (by simp; omega)]
        rw [this]; simp
      · have e : stAll low high s x = (s, true) := by rw [stAll, if_neg q, if_neg q2]
        rw [e, if_pos rfl, push_all h2.2]
        have : inR low high (x :: l) = inR low high l := by
          unfold inR; rw [List.filter_cons, if_neg (by simp; omega)]
        rw [this]
def HAll (l : Nat) (rL : Loop) (b6 b7 b10 base : Nat) (low high : Int) (rows : List It) (b : Bool) (C : Nat → Prop) (W : World) : Prop :=
  ∃ v, (Lp l (recB rL 0 b) W ∧ Has W b6 [.int .i64 low] 2 ∧ Has W b7 [.int .i64 high] 2 ∧ Has W b10 [v] 42 ∧ Ows base W 51 2 v (rows.map It.cells)) ∧ (∀ k, ob v = some k → k ≠ l ∧ k ≠ b6 ∧ k ≠ b7 ∧ k ≠ b10) ∧ ∀ k, C k ↔ (k = l ∨ k = b10 ∨ ob v = some k) ∨ (k = b6 ∨ k = b7)
theorem HAll.ft {l : Nat} {rL : Loop} {b6 b7 b10 base : Nat} {low high : Int} {rows : List It} {b : Bool} {C : Nat → Prop} {W : World} {v : Value} (hC : ∀ k, C k ↔ (k = l ∨ k = b10 ∨ ob v = some k) ∨ (k = b6 ∨ k = b7))
    (h1 : Lp l (recB rL 0 b) W) (h2 : Has W b6 [.int .i64 low] 2) (h3 : Has W b7 [.int .i64 high] 2) (h4 : Has W b10 [v] 42) (h5 : Ows base W 51 2 v (rows.map It.cells)) (hob : ∀ k, ob v = some k → k ≠ l ∧ k ≠ b6 ∧ k ≠ b7 ∧ k ≠ b10) :
    Ft C (HAll l rL b6 b7 b10 base low high rows b C) W := by
  refine ⟨fun k hk => ?_, fun u a => ⟨v, ⟨h1.step a (fun hn => hn ((hC _).2 (.inl (.inl rfl)))), h2.step a (fun hn => hn ((hC _).2 (.inr (.inl rfl)))), h3.step a (fun hn => hn ((hC _).2 (.inr (.inr rfl)))), h4.step a (fun hn => hn ((hC _).2 (.inl (.inr (.inl rfl))))), h5.step a (fun k hk hn => hn ((hC k).2 (.inl (.inr (.inr hk)))))⟩, hob, hC⟩⟩
  rcases (hC k).1 hk with (rfl | rfl | h) | (rfl | rfl)
  · exact h1.lt
  · exact h4.lt
  · exact (h5.ge k h).2
  · exact h2.lt
  · exact h3.lt
theorem c_all (A : Ar) (na fa : Option Addr) (nc fc : Nat) (r : Int) (hr : U64 r) (low high : Int) (w : World) (hA : ArR w na fa A) :
    FC Tryz.prog 43 [arV na fa nc fc A, .int .u64 r, .int .i64 low, .int .i64 high] w (fun v w' => Sub w w' ∧ ∃ a c rows e, v = .tuple #[.slice a (rows.map It.cells).length c, .int .i64 e] ∧ Ows w.heap.size w' 51 2 (.slice a (rows.map It.cells).length c) (rows.map It.cells) ∧ (¬ isMap A r → e = 1) ∧ ∀ L, isMap A r → IsT A r L → rows = inR low high L ∧ e = 0) := by
  refine FC.introM Tryz.func43 rfl Tryz.ntmps43 rfl ?_
  have S := Sub.refl w
  refine RC.seq (RC.region rfl ?_);refine RL.box rfl rfl rfl (fun b_4 w_4 e_4 z_4 hb_4 s_4 => ?_);have ge_4 := S.le e_4;have S := S.trans s_4
  have hb_4 : Has w_4 b_4 ([.slice na A.nodes.length nc, .slice fa A.free.length fc]) _ := hb_4
  refine RL.box rfl rfl rfl (fun b_6 w_6 e_6 z_6 hb_6 s_6 => ?_);have ge_6 := S.le e_6;have n_4__6 := hb_4.ne e_6;have S := S.trans s_6;have hb_4 := hb_4.sub s_6;refine RL.box rfl rfl rfl (fun b_7 w_7 e_7 z_7 hb_7 s_7 => ?_);have ge_7 := S.le e_7;have n_4__7 := hb_4.ne e_7;have n_6__7 := hb_6.ne e_7;have S := S.trans s_7;have hb_4 := hb_4.sub s_7;have hb_6 := hb_6.sub s_7;refine RL.asS rfl ?_;refine RL.asS rfl ?_;refine RL.nil (RC.back (RC.seq (RC.seq (RC.region rfl ?_))));refine RL.eS (.loadR ([.slice na A.nodes.length nc, .slice fa A.free.length fc]) sh26 rfl hb_4.row rfl) ?_;refine RL.mvS rfl ?_;refine RL.call rfl ok54 (c_tRight A na fa nc fc r hr w_7 (hA.sub S)) rfl rfl ?_;rintro _ w1 ⟨rfl, s2⟩;have S := S.trans s2;have hb_4 := hb_4.sub s2;have hb_6 := hb_6.sub s2;have hb_7 := hb_7.sub s2;refine RL.eS (.not rfl) ?_;refine RL.nil (RC.back ?_);refine RC.cond rfl (fun h3 => ?_) (fun h3 => ?_)
  ·
    have hno : ¬ isMap A r := (fun h => by have h2 := h3; rw [isMapB_yes h] at h2; cases h2)
    refine RC.seq (RC.region rfl ?_);refine RL.asS rfl ?_;refine RL.asS rfl ?_;refine RL.nil (RC.back ?_);refine RC.doneM0 (rs := [.tmp 8, .tmp 9]) (vs := [_, _]) rfl rfl ⟨rfl, rfl, trivial⟩ ?_
    exact ⟨S, none, 0, [], 1, rfl, Ows.nil _ _ _ _, fun _ => rfl, fun L hm _ => absurd hm hno⟩
  ·
    have hmb : isMapB A r = true := (by simpa using h3)
    have hmap : isMap A r := (isMapB_iff A r).1 (by simpa using h3)
    obtain ⟨_, L, hT, hL2⟩ := id hmap
    have hsrt := hT.srt
    refine RC.skip (RC.back (RC.seq (RC.region rfl ?_)));refine RL.alloc ze42 rfl rfl (fun b_10 w_10 e_10 z_10 hb_10 s_10 => ?_);have ge_10 := S.le e_10;have n_4__10 := hb_4.ne e_10;have n_6__10 := hb_6.ne e_10;have n_7__10 := hb_7.ne e_10;have S := S.trans s_10;have hb_4 := hb_4.sub s_10;have hb_6 := hb_6.sub s_10;have hb_7 := hb_7.sub s_10;refine RL.nil (RC.back (RC.seq (RC.seq (RC.region rfl ?_))));refine RL.eS (.loadR ([.slice na A.nodes.length nc, .slice fa A.free.length fc]) sh26 rfl hb_4.row rfl) ?_;refine RL.mvS rfl ?_;refine RL.call rfl ok96 (c_items A na fa nc fc r w_10) rfl rfl ?_;rintro _ w4 ⟨bA, bR, rfl, hbA, hbR, s5⟩;have S := S.trans s5;have hb_4 := hb_4.sub s5;have hb_6 := hb_6.sub s5;have hb_7 := hb_7.sub s5;have hb_10 := hb_10.sub s5;refine RL.nil (RC.back ?_);refine RC.range (cs := [_, _]) rfl ok165 ?_
    intro rL W1 hst hpe hps hasg hbd hk1 s1 z1 hL hD
    obtain ⟨b_D, eD⟩ : ∃ D, D = w4.heap.size := ⟨_, rfl⟩
    rw [← eD] at hk1 z1 hL hD ⊢
    obtain ⟨b_l, el⟩ : ∃ l, l = b_D + 1 := ⟨_, rfl⟩
    rw [← el] at hk1 hL ⊢
    have n_D_l : b_D ≠ b_l := by omega
    have ge_D : _ ≤ b_D := Nat.le_trans S.size (by omega)
    have ge_l : _ ≤ b_l := Nat.le_trans S.size (by omega)
    have nb_4_b_D : b_4 ≠ b_D := fun e => by have := hb_4.lt; omega
    have nb_4_b_l : b_4 ≠ b_l := fun e => by have := hb_4.lt; omega
    have nb_6_b_D : b_6 ≠ b_D := fun e => by have := hb_6.lt; omega
    have nb_6_b_l : b_6 ≠ b_l := fun e => by have := hb_6.lt; omega
    have nb_7_b_D : b_7 ≠ b_D := fun e => by have := hb_7.lt; omega
    have nb_7_b_l : b_7 ≠ b_l := fun e => by have := hb_7.lt; omega
    have nb_10_b_D : b_10 ≠ b_D := fun e => by have := hb_10.lt; omega
    have nb_10_b_l : b_10 ≠ b_l := fun e => by have := hb_10.lt; omega
    have S := S.trans s1;have hb_4 := hb_4.sub s1;have hb_6 := hb_6.sub s1;have hb_7 := hb_7.sub s1;have hb_10 := hb_10.sub s1
    rw [recB_0 (id := 0) hst hpe] at hL
    have hY : YT Tryz.prog b_l It.val It.ok List.length 200 (HAll b_l rL b_6 b_7 b_10 w.heap.size low high) (stAll low high) := by
      intro s x C W hx hcn hH
      obtain ⟨v, ⟨hL, hb_6, hb_7, hb_10, o⟩, hob, hC⟩ := hH.now
      have szB : w.heap.size ≤ W.heap.size := (by have := hL.lt; omega)
      have G : Agr (fun k => k = b_l ∨ k = b_10 ∨ ob v = some k) W W := Agr.refl _ _
      refine FY.intro (m := 33) (F := upd _ (some 19) x.val) [0] hL rfl (by show 1 = rL.params.size; rw [hps]; rfl) (knows1 hps hk1 rfl) ?_
      show RC _ _ rL.assign _ _ _
      rw [hasg]
      refine RC.region rfl ?_;refine RL.alloc ze51 rfl rfl (fun b_11 w_11 e_11 z_11 hb_11 s_11 => ?_);have n_l__11 := hL.ne e_11;have n_6__11 := hb_6.ne e_11;have n_7__11 := hb_7.ne e_11;have n_10__11 := hb_10.ne e_11;have d_o_b_11 := o.neNew e_11;have hL := hL.sub s_11;have hb_6 := hb_6.sub s_11;have hb_7 := hb_7.sub s_11;have hb_10 := hb_10.sub s_11;have o := o.sub s_11
      have geG_11 := agLe G e_11
      have G := G.trans s_11.agr;have szB := Nat.le_trans szB s_11.size;refine RL.stS sh51 rfl rfl rfl hb_11 (fun w6 z6 hb_11 a6 => ?_);have hL := hL.upd a6 n_l__11;have hb_6 := hb_6.upd a6 n_6__11;have hb_7 := hb_7.upd a6 n_7__11;have hb_10 := hb_10.upd a6 n_10__11;have o := o.updD a6 d_o_b_11
      have G := agNew G a6 geG_11
      have szB := Nat.le_trans szB a6.size
      have hb_11 : Has w6 b_11 (x.cells) _ := hb_11.now (by kernel_rfl)
      refine RL.nil (RC.begin hL ?_)
      intro w7 a7 z7 hL
      have hb_6 := hb_6.step a7 (fun e => nb_6_b_l e);have hb_7 := hb_7.step a7 (fun e => nb_7_b_l e);have hb_10 := hb_10.step a7 (fun e => nb_10_b_l e);have o := o.step a7 (fun k hk e => (fun k hk => (hob k hk).1) k hk e);have G := G.trans (a7.mono fun k _ e => .inl e);have szB := Nat.le_trans szB a7.size;have hb_11 := hb_11.step a7 (fun e => n_l__11.symm e)
      show RC _ _ rL.body _ _ _
      rw [hbd]
      refine RC.block (RC.seq (RC.seq (RC.region rfl ?_)));refine RL.eS (.field0 fo51_0 rfl) ?_;refine RL.eS (.load1 sh2 rfl (hb_11.cell rfl)) ?_;refine RL.eS (.load1 sh2 rfl (hb_7.cell rfl)) ?_;refine RL.eS (.bin rfl rfl rfl) ?_;refine RL.nil (RC.back ?_);refine RC.cond_dec rfl (fun h8 => ?_) (fun h8 => ?_)
      ·
        have q1 := h8
        refine RC.exit rfl (RC.endr (j := some (.exit 0)) hL ?_)
        intro w9 a9 z9 hL
        have hb_6 := hb_6.step a9 (fun e => nb_6_b_l e);have hb_7 := hb_7.step a9 (fun e => nb_7_b_l e);have hb_10 := hb_10.step a9 (fun e => nb_10_b_l e);have o := o.step a9 (fun k hk e => (fun k hk => (hob k hk).1) k hk e);have G := G.trans (a9.mono fun k _ e => .inl e);have szB := Nat.le_trans szB a9.size;have hb_11 := hb_11.step a9 (fun e => n_l__11.symm e)
        -- round end 1
        rw [show stAll low high s x = (s, false) from if_pos q1]
        exact ⟨C, rfl, HAll.ft hC hL hb_6 hb_7 hb_10 o hob, G.mono fun k _ e => (hC k).2 (.inl e), Up.refl _ _⟩
      ·
        have q1 := h8
        refine RC.skip (RC.back (RC.seq (RC.region rfl ?_)));refine RL.eS (.field0 fo51_0 rfl) ?_;refine RL.eS (.load1 sh2 rfl (hb_11.cell rfl)) ?_;refine RL.eS (.load1 sh2 rfl (hb_6.cell rfl)) ?_;refine RL.eS (.bin rfl rfl rfl) ?_;refine RL.nil (RC.back ?_);refine RC.cond_dec rfl (fun h10 => ?_) (fun h10 => ?_)
        ·
          have q2 := h10
          refine RC.region rfl ?_;refine RL.eS (.load1 sh42 rfl (hb_10.cell rfl)) ?_;refine RL.eS (.loadR (x.cells) sh51 rfl hb_11.row rfl) ?_;refine RL.buildSlice1 sl42 _ ze51 rfl rfl rfl rfl rfl rfl rfl (fun b_30 w_30 e_30 z_30 hb_30 s_30 => ?_);have n_6__30 := hb_6.ne e_30;have n_7__30 := hb_7.ne e_30;have n_10__30 := hb_10.ne e_30;have n_11__30 := hb_11.ne e_30;have n_l__30 := hL.ne e_30;have d_o_b_30 := o.neNew e_30;have hb_6 := hb_6.sub s_30;have hb_7 := hb_7.sub s_30;have hb_10 := hb_10.sub s_30;have o := o.sub s_30
          have geG_30 := agLe G e_30
          have G := G.trans s_30.agr;have szB := Nat.le_trans szB s_30.size;have hb_11 := hb_11.sub s_30;have hL := hL.sub s_30
          have ltb_6_31 := hb_6.lt
          have ltb_7_31 := hb_7.lt
          have ltb_10_31 := hb_10.lt
          have szG_31 := G.size
          have ltb_11_31 := hb_11.lt
          have ltb_l_31 := hL.lt
          have ltb_30_31 := hb_30.lt
          refine RL.append2 (base := w.heap.size) (rows := s.map It.cells) (news := [_]) sl42 ze51 rfl rfl rfl rfl (.inl o) (Has.slOne hb_30) rfl (by intro r hr; rw [List.mem_singleton] at hr; subst hr; rfl) rfl (by (try simp only [List.length_map, List.length_nil, List.length_append, List.length_cons]); omega) (by (try simp only [List.length_map, List.length_nil, List.length_append, List.length_cons]); omega) (by omega) rfl rfl (fun v_31 w_31 hc_31 ho_31 ag_31 ob_31 => ?_)
          have o31 := ho_31 (.inl (by simp))
          rw [show _ ++ [_] = ((s ++ [x]).map It.cells) from by rw [List.map_append]; rfl] at o31
          have d_o31_b_6 := obNe ob_31 (fun k hk => (hob k hk).2.1) hb_6.lt;have d_o31_b_7 := obNe ob_31 (fun k hk => (hob k hk).2.2.1) hb_7.lt;have d_o31_b_10 := obNe ob_31 (fun k hk => (hob k hk).2.2.2) hb_10.lt;have d_o31_b_11 := obNe ob_31 d_o_b_11 hb_11.lt;have d_o31_b_l := obNe ob_31 (fun k hk => (hob k hk).1) hL.lt;have hb_6 := hb_6.step ag_31 (fun e => (fun k hk => (hob k hk).2.1) _ e.1 rfl);have hb_7 := hb_7.step ag_31 (fun e => (fun k hk => (hob k hk).2.2.1) _ e.1 rfl);have hb_10 := hb_10.step ag_31 (fun e => (fun k hk => (hob k hk).2.2.2) _ e.1 rfl);have G := G.trans (ag_31.mono fun k _ e => .inr (.inr e.1));have szB := Nat.le_trans szB ag_31.size;have hb_11 := hb_11.step ag_31 (fun e => d_o_b_11 _ e.1 rfl);have hL := hL.step ag_31 (fun e => (fun k hk => (hob k hk).1) _ e.1 rfl)
          obtain ⟨a_31, c_31, rfl, k_31⟩ := o31.form
          refine RL.stS sh42 rfl rfl rfl hb_10 (fun w11 z11 hb_10 a11 => ?_);have hb_6 := hb_6.upd a11 n_6__10;have hb_7 := hb_7.upd a11 n_7__10;have G := G.trans (a11.mono fun k _ e => .inr (.inl e));have szB := Nat.le_trans szB a11.size;have hb_11 := hb_11.upd a11 n_10__11.symm;have hL := hL.upd a11 nb_10_b_l.symm;have o31 := o31.updD a11 d_o31_b_10;refine RL.nil (RC.endr (j := none) hL ?_)
          intro w12 a12 z12 hL
          have hb_6 := hb_6.step a12 (fun e => nb_6_b_l e);have hb_7 := hb_7.step a12 (fun e => nb_7_b_l e);have hb_10 := hb_10.step a12 (fun e => nb_10_b_l e);have G := G.trans (a12.mono fun k _ e => .inl e);have szB := Nat.le_trans szB a12.size;have hb_11 := hb_11.step a12 (fun e => n_l__11.symm e);have o31 := o31.step a12 (fun k hk e => d_o31_b_l k hk e)
          -- round end 2
          rw [show stAll low high s x = (s ++ [x], true) from by rw [stAll, if_neg q1, if_pos q2]]
          refine ⟨_, rfl, HAll.ft (fun _ => Iff.rfl) hL hb_6 hb_7 hb_10 o31 (fun k hk => ⟨d_o31_b_l k hk, d_o31_b_6 k hk, d_o31_b_7 k hk, d_o31_b_10 k hk⟩), G.mono fun k _ e => (hC k).2 (.inl e), fun k hk => ?_⟩
          rcases hk with (e | e | e) | e
          · exact .inl ((hC k).2 (.inl (.inl e)))
          · exact .inl ((hC k).2 (.inl (.inr (.inl e))))
          · rcases ob_31 with h | ⟨c, h, h3⟩
            · exact .inl ((hC k).2 (.inl (.inr (.inr (h ▸ e)))))
            · rw [h] at e; cases e; exact .inr (Nat.le_trans szG_31 h3)
          · exact .inl ((hC k).2 (.inr e))
        ·
          have q2 := h10
          refine RC.skip (RC.endr (j := none) hL ?_)
          intro w13 a13 z13 hL
          have hb_6 := hb_6.step a13 (fun e => nb_6_b_l e);have hb_7 := hb_7.step a13 (fun e => nb_7_b_l e);have hb_10 := hb_10.step a13 (fun e => nb_10_b_l e);have o := o.step a13 (fun k hk e => (fun k hk => (hob k hk).1) k hk e);have G := G.trans (a13.mono fun k _ e => .inl e);have szB := Nat.le_trans szB a13.size;have hb_11 := hb_11.step a13 (fun e => n_l__11.symm e)
          -- round end 3
          rw [show stAll low high s x = (s, true) from by rw [stAll, if_neg q1, if_neg q2]]
          exact ⟨C, rfl, HAll.ft hC hL hb_6 hb_7 hb_10 o hob, G.mono fun k _ e => (hC k).2 (.inl e), Up.refl _ _⟩
    refine FC.mono (c_items1 b_l _ _ _ _ (stAll_cnt low high) hY A na fa nc fc r L hT [] (fun k => (k = b_l ∨ k = b_10 ∨ ob (.slice none 0 0) = some k) ∨ (k = b_6 ∨ k = b_7)) (· < w.heap.size) bA bR W1 hr (by simpa using hL2) ((Ft.of_sub fun u s => hA.sub s).sub S) (fun k hk e => by rcases e with (e | e | e) | (e | e) <;> first | (cases e; done) | omega) (HAll.ft (fun _ => Iff.rfl) hL hb_6 hb_7 hb_10 (Ows.nil _ _ _ _) (fun k e => by cases e)) (hbA.sub s1) (hbR.sub s1)) ?_
    rintro _ W2 ⟨C2, hH, ag, up⟩
    obtain ⟨v, ⟨hL, hb_6, hb_7, hb_10, o⟩, hob, hC⟩ := hH.now
    have hDC : ¬ ((b_D = b_l ∨ b_D = b_10 ∨ ob (.slice none 0 0) = some b_D) ∨ (b_D = b_6 ∨ b_D = b_7)) := (fun e => by rcases e with (e | e | e) | (e | e) <;> first | (cases e; done) | omega)
    have S := S.agrN ag (fun k e => by rcases e with (e | e | e) | (e | e) <;> first | (cases e; done) | omega)
    have hDn : ¬ C2 b_D := up.not hD.lt hDC
    have hD := hD.step ag hDC
    have hoD : ∀ k, ob v = some k → k ≠ b_D := fun k hk e => hDn (e ▸ (hC k).2 (.inl (.inr (.inr hk))))
    obtain ⟨a1, c1, rfl, _⟩ := o.form
    refine ⟨_, hL, recB_nb, fun W3 a3 z3 => .inl ⟨recB_pe, RC.backM ?_⟩⟩
    have S := S.agrN a3 (fun k e => e ▸ ge_l)
    have o := o.step a3 (fun k hk e => (fun k hk => (hob k hk).1) k hk e);have hb_10 := hb_10.step a3 (fun e => nb_10_b_l e);have hD := hD.step a3 (fun e => n_D_l e);refine RC.seq (RC.region rfl ?_);refine RL.eS (.load1 sh42 rfl (hb_10.cell rfl)) ?_;refine RL.asS rfl ?_;refine RL.asS rfl ?_;refine RL.nil (RC.back ?_);refine RC.doneM (rs := [.tmp 8, .tmp 9]) (vs := [_, _]) rfl rfl (fun _ => ⟨rfl, rfl, trivial⟩) hD (fun w14 a14 z14 => ?_)
    have S := S.agrN a14 (fun k e => e ▸ ge_D)
    have o := o.step a14 (fun k hk e => hoD k hk e);have hb_10 := hb_10.step a14 (fun e => nb_10_b_D e)
    exact ⟨S, a1, c1, _, 0, rfl, o, fun h => absurd hmap h, fun L' hm hl => ⟨by rw [hl.unique hT, push_all hsrt]; simp, rfl⟩⟩
theorem reachA_0 (A : Ar) : reachA A [0] = [] := by
  unfold reachA
  rw [List.foldl_cons, List.foldl_nil, visitF_no (getA_0 A)]
theorem c_hpItems0 (A : Ar) (na fa : Option Addr) (nc fc : Nat) (hok : AOk A) (w : World) (hA : ArR w na fa A) :
  FC Tryz.prog 45 [arV na fa nc fc A, .int .u64 0] w (Val (.tuple #[.slice none 0 0, .int .i64 0]) w) := by
 have hall : allHp A [0] = true := allHp_iff.2 ⟨hok, fun r hr => ⟨[], [], by rw [List.mem_singleton.1 hr]; exact IsP.zero A⟩⟩
 refine FC.intro Tryz.func45 rfl Tryz.ntmps45 rfl ?_
 have S := Sub.refl w
 refine RC.seq (RC.region rfl ?_);refine RL.box rfl rfl rfl (fun b_2 w_2 e_2 z_2 hb_2 s_2 => ?_);have S := S.trans s_2
 have hb_2 : Has w_2 b_2 ([.slice na A.nodes.length nc, .slice fa A.free.length fc]) _ := hb_2
 refine RL.asS rfl ?_;refine RL.asS rfl ?_;refine RL.nil (RC.back (RC.seq (RC.region rfl ?_)));refine RL.eS (.loadR ([.slice na A.nodes.length nc, .slice fa A.free.length fc]) sh26 rfl hb_2.row rfl) ?_;refine RL.mvS rfl ?_;refine RL.buildSlice1 sl73 _ ze31 rfl rfl rfl rfl rfl rfl rfl (fun b_14 w_14 e_14 z_14 hb_14 s_14 => ?_);have S := S.trans s_14;have hb_2 := hb_2.sub s_14;refine RL.call rfl ok100 (c_aReach A na fa nc fc [0] 1 rfl (some ⟨b_14, 0, none⟩) 1 (by decide) (fun x hx => by rw [List.mem_singleton.1 hx]; unfold U64; decide) w_14 (hA.sub S) (Has.sl1 (enc := u6) (l := [0]) hb_14)) rfl rfl ?_;rintro v_ w1 ⟨s2, hr⟩
 obtain ⟨a1, c1, hv⟩ : ∃ a1 c1, v_ = Value.tuple #[.slice a1 0 c1, .int .i64 0] := hr.elim (fun h => absurd hok h.1) (fun ⟨_, a, c, e, _⟩ => ⟨a, c, by rw [e, reachA_0]; rfl⟩)
 subst hv
 have S := S.trans s2;have hb_2 := hb_2.sub s2;refine RL.mvS rfl ?_;refine RL.eS (.extract rfl rfl) ?_;refine RL.eS (.extract rfl rfl) ?_;refine RL.asS rfl ?_;refine RL.asS rfl ?_;refine RL.nil (RC.back (RC.seq (RC.seq (RC.region rfl ?_))));refine RL.mvS rfl ?_;refine RL.eS (.bin rfl rfl rfl) ?_;refine RL.mvS rfl ?_;refine RL.split 20 rfl (fun h3 => ?_) (fun h3 => ?_)
 ·
  exact absurd rfl h3
 ·
  refine RL.eS (.loadR ([.slice na A.nodes.length nc, .slice fa A.free.length fc]) sh26 rfl hb_2.row rfl) ?_;refine RL.mvS rfl ?_;refine RL.call rfl ok101 ((hall ▸ c_hpRight A na fa nc fc 0 (by unfold U64; decide) w1 (hA.sub S))) rfl rfl ?_;rintro _ w4 ⟨rfl, s5⟩;have S := S.trans s5;have hb_2 := hb_2.sub s5;refine RL.eS (.not rfl) ?_;refine RL.eS (.pick_f rfl rfl) ?_;refine RL.nil (RC.back ?_);refine RC.cond_f rfl ?_;refine RC.skip (RC.back (RC.seq (RC.region rfl ?_)));refine RL.asS rfl ?_;refine RL.nil (RC.back (RC.seq (RC.seq (RC.region rfl ?_))));refine RL.mvS rfl ?_;refine RL.eS (.len sl24 rfl) ?_;refine RL.mvS rfl ?_;refine RL.nil (RC.back (RC.block ?_));refine RC.loop (α := Unit) (fun _ => [(2, .pointer (some ⟨b_2, 0, none⟩)), (8, .slice none 0 0), (26, .slice a1 0 c1), (27, .int .i64 0), (28, .int .i64 0)]) (fun _ w6 => Has w6 b_2 [.slice na A.nodes.length nc, .slice fa A.free.length fc] 26 ∧ Sub w w6) (fun _ => 0) () (keep_of (by repeat (first | exact trivial | refine And.intro rfl ?_))) (⟨hb_2, S⟩) (fun _ w6 hJ => ?_)
  obtain ⟨hb_2, S⟩ := hJ
  refine RC.seq (RC.region rfl ?_);refine RL.eS (.bin rfl rfl rfl) ?_;refine RL.nil (RC.back (RC.seq ?_));refine RC.cond_dec rfl (fun h7 => ?_) (fun h7 => ?_)
  ·
   exact absurd h7 (by decide)
  ·
   refine RC.exit rfl (RC.back (RC.seq (RC.region rfl ?_)));refine RL.mvS rfl ?_;refine RL.call rfl ok47 (c_sortNone none 0 _ w6) rfl rfl ?_;rintro _ w8 ⟨rfl, s9⟩;have S := S.trans s9;refine RL.nil (RC.back (RC.seq (RC.region rfl ?_)));refine RL.mvS rfl ?_;refine RL.asS rfl ?_;refine RL.asS rfl ?_;refine RL.nil (RC.back ?_);refine RC.done (rs := [.tmp 4, .tmp 5]) (vs := [_, _]) rfl rfl ⟨rfl, rfl, trivial⟩ ?_
   exact ⟨rfl, S⟩
theorem inR_all {l : List It} (h : ∀ x ∈ l, keyOk x) : inR (-4611686018427387904) 4611686018427387904 l = l := by
  unfold inR
  rw [List.filter_eq_self]
  intro x hx
  have := h x hx
  unfold keyOk at this
  simp only [decide_eq_true_eq]
  omega
theorem kSrt_srt {l : List It} (h : kSrt l) (ha : Ap l) : Srt l := by
  unfold kSrt Ap Srt at *
  exact (h.and ha).imp (fun {x y} ⟨h1, h2⟩ => by omega)
set_option maxHeartbeats 2000000 in
theorem c_hold0 (A : Ar) (na fa : Option Addr) (nc fc : Nat) (hnc : A.nodes.length ≤ nc) (hfc : A.free.length ≤ fc) (R : Rt) (hR : R.ok) (h0 : R.h = 0) (m : Mo) (hC : IsC A R m) (w : World) (hA : ArR w na fa A) :
  FC Tryz.prog 14 [arV na fa nc fc A, R.val] w (fun v w' => Sub w w' ∧ ∃ p M, v = .tuple #[moV p m, .int .i64 0] ∧ MoS p m ∧ UpN w M ∧ Ft M (fun u => MoR u p m) w') := by
 obtain ⟨u1, u2, u3, u4⟩ := hR
 obtain ⟨T, t1, t2, t3, t4⟩ := hC.tab
 obtain ⟨P0, r1⟩ := hC.row
 have hh : m.heap = [] := by
  obtain ⟨Q, L, p1, p2⟩ := hC.heap
  rw [h0] at p1
  rw [((IsP.zero A).unique p1).2] at p2
  exact List.perm_nil.1 p2
 have hk1 : ∀ x ∈ m.map, keyOk x := fun x hx => hC.keys x (by simp [hx])
 have hl1 := hC.mapl
 have hrp := rowH_perm t1
 have hl2 : (rowH A R.t).length ≤ 200 := by rw [hrp.length_eq]; exact t3
 have hl3 := hC.rowl
 have hmt : ∀ l', l'.Perm (rowH A R.t) → kSrt l' → l' = m.tab := fun l' hp hs => by
  have hpT := hp.trans hrp
  exact srt_perm (kSrt_srt hs (t2.perm hpT.symm)) hC.tabs (hpT.trans t4.symm)
 have htl : m.tab.length = (rowH A R.t).length := by rw [t4.length_eq, hrp.length_eq]
 obtain ⟨rm, rt, rr, rh⟩ := R
 simp only [] at h0 u1 u2 u3 u4 t1 t2 t3 t4 r1 hrp hl2 hmt htl
 subst h0
 refine FC.intro Tryz.func14 rfl Tryz.ntmps14 rfl ?_
 have S := Sub.refl w
 refine RC.seq (RC.region rfl ?_);refine RL.box rfl rfl rfl (fun b_2 w_2 e_2 z_2 hb_2 s_2 => ?_);have S := S.trans s_2
 have hb_2 : Has w_2 b_2 ([.slice na A.nodes.length nc, .slice fa A.free.length fc]) _ := hb_2
 refine RL.box rfl rfl rfl (fun b_3 w_3 e_3 z_3 hb_3 s_3 => ?_);have S := S.trans s_3;have hb_2 := hb_2.sub s_3
 have hb_3 : Has w_3 b_3 ([.int .u64 rm, .int .u64 rt, .int .u64 rr, .int .u64 0]) _ := hb_3
 refine RL.alloc ze45 rfl rfl (fun b_4 w_4 e_4 z_4 hb_4 s_4 => ?_);have ge_4 := S.le e_4;have S := S.trans s_4;have hb_2 := hb_2.sub s_4;have hb_3 := hb_3.sub s_4;refine RL.asS rfl ?_;refine RL.nil (RC.back (RC.seq (RC.region rfl ?_)));refine RL.eS (.loadR ([.slice na A.nodes.length nc, .slice fa A.free.length fc]) sh26 rfl hb_2.row rfl) ?_;refine RL.eS (.field0 fo33_0 rfl) ?_;refine RL.eS (.load1 sh31 rfl (hb_3.cell rfl)) ?_;refine RL.call rfl ok43 (c_all A na fa nc fc rm u1 _ _ w_4 (hA.sub S)) rfl rfl ?_;rintro _ w1 ⟨s2, a1, c1, rows1, e1, rfl, o1, _, hx1⟩
 obtain ⟨rfl, rfl⟩ := hx1 m.map hC.isMap hC.map
 rw [inR_all hk1, List.length_map] at o1
 rw [inR_all hk1, List.length_map]
 have k1 : m.map.length ≤ c1 := (by obtain ⟨_, c', e, h⟩ := o1.form; rw [List.length_map] at e h; simp only [Value.slice.injEq] at e; omega)
 have upA : UpN _ _ := (fun k hk => .inr (o1.ge k hk).1)
 have F1 := o1.ft.imp (fun u h => h.sl.1)
 have d_F1_b_4 := upNe upA (fun _ (h : False) => h.elim) hb_4.lt
 have up1 := upA.low S.size
 have S := S.trans s2;have hb_2 := hb_2.sub s2;have hb_3 := hb_3.sub s2;have hb_4 := hb_4.sub s2;refine RL.mvS rfl ?_;refine RL.eS (.as (v' := .slice a1 m.map.length c1) (.extract rfl rfl) (by rfl)) ?_;refine RL.eS (.extract rfl rfl) ?_;refine RL.asS rfl ?_;refine RL.asS rfl ?_;refine RL.nil (RC.back (RC.seq (RC.region rfl ?_)));refine RL.eS (.loadR ([.slice na A.nodes.length nc, .slice fa A.free.length fc]) sh26 rfl hb_2.row rfl) ?_;refine RL.eS (.field0 fo33_1 rfl) ?_;refine RL.eS (.load1 sh31 rfl (hb_3.cell rfl)) ?_;refine RL.call rfl ok15 (c_wAllO A na fa nc fc hnc hfc rt u2 w1 (hA.sub S)) rfl rfl ?_;rintro _ w3 ⟨s4, a2, c2, rows2, e2, rfl, k2, o2, _, hx2⟩
 obtain ⟨rfl, rfl⟩ := hx2 hC.isTab
 have upB : UpN _ _ := (fun k hk => .inr (o2.ge k hk).1)
 have d24 : ∀ k, ob (.slice a2 (rowH A rt).length c2) = some k → k ≠ b_4 := (fun k hk e => by have h1 := (o2.ge k hk).1; have h2 := hb_4.lt; omega)
 have d21 : ∀ k, ob (.slice a1 m.map.length c1) = some k → ¬ ob (.slice a2 (rowH A rt).length c2) = some k := (fun k hk e => by have h1 := (o2.ge k e).1; have h2 := F1.lt k hk; omega)
 have up2 := upB.low S.size
 have o2 := o2.low S.size
 have S := S.trans s4;have hb_2 := hb_2.sub s4;have hb_3 := hb_3.sub s4;have hb_4 := hb_4.sub s4;have F1 := F1.sub s4;refine RL.mvS rfl ?_;refine RL.eS (.as (v' := .slice a2 (rowH A rt).length c2) (.extract rfl rfl) (by rfl)) ?_;refine RL.eS (.extract rfl rfl) ?_;refine RL.asS rfl ?_;refine RL.asS rfl ?_;refine RL.nil (RC.back (RC.seq (RC.region rfl ?_)));refine RL.eS (.loadR ([.slice na A.nodes.length nc, .slice fa A.free.length fc]) sh26 rfl hb_2.row rfl) ?_;refine RL.eS (.field0 fo33_2 rfl) ?_;refine RL.eS (.load1 sh31 rfl (hb_3.cell rfl)) ?_;refine RL.call rfl ok44 (c_dRowO A na fa nc fc hnc hfc rr u3 w3 (hA.sub S)) rfl rfl ?_;rintro _ w5 ⟨s6, a3, c3, V3, e3, rfl, k3, o3, _, hx3⟩
 obtain ⟨rfl, rfl⟩ := hx3 m.row P0 hC.isRow r1
 rw [List.length_map] at o3
 rw [List.length_map]
 have upC : UpN _ _ := (fun k hk => .inr (o3.ge k hk).1)
 have F3 := o3.ft.imp (fun u h => h.sl.1)
 have d_F3_b_4 := upNe upC (fun _ (h : False) => h.elim) hb_4.lt
 have d23 : ∀ k, ob (.slice a3 m.row.length c3) = some k → ¬ ob (.slice a2 (rowH A rt).length c2) = some k := (fun k hk e => by have h1 := (o3.ge k hk).1; have h2 := (o2.ge k e).2; omega)
 have up3 := upC.low S.size
 have S := S.trans s6;have hb_2 := hb_2.sub s6;have hb_3 := hb_3.sub s6;have hb_4 := hb_4.sub s6;have F1 := F1.sub s6;have o2 := o2.sub s6;refine RL.mvS rfl ?_;refine RL.eS (.as (v' := .slice a3 m.row.length c3) (.extract rfl rfl) (by rfl)) ?_;refine RL.eS (.extract rfl rfl) ?_;refine RL.asS rfl ?_;refine RL.asS rfl ?_;refine RL.nil (RC.back (RC.seq (RC.region rfl ?_)));refine RL.eS (.loadR ([.slice na A.nodes.length nc, .slice fa A.free.length fc]) sh26 rfl hb_2.row rfl) ?_;refine RL.eS (.field0 fo33_3 rfl) ?_;refine RL.eS (.load1 sh31 rfl (hb_3.cell rfl)) ?_;refine RL.call rfl ok45 (c_hpItems0 A na fa nc fc hC.ok w5 (hA.sub S)) rfl rfl ?_;rintro _ w7 ⟨rfl, s8⟩;have S := S.trans s8;have hb_2 := hb_2.sub s8;have hb_3 := hb_3.sub s8;have hb_4 := hb_4.sub s8;have F1 := F1.sub s8;have o2 := o2.sub s8;have F3 := F3.sub s8;refine RL.mvS rfl ?_;refine RL.eS (.as (v' := .slice none 0 0) (.extract rfl rfl) (by rfl)) ?_;refine RL.eS (.extract rfl rfl) ?_;refine RL.asS rfl ?_;refine RL.asS rfl ?_;refine RL.nil (RC.back (RC.seq (RC.region rfl ?_)));refine RL.eS (.loadR ([.slice na A.nodes.length nc, .slice fa A.free.length fc]) sh26 rfl hb_2.row rfl) ?_;refine RL.eS (.field0 fo33_0 rfl) ?_;refine RL.eS (.load1 sh31 rfl (hb_3.cell rfl)) ?_;refine RL.call rfl ok46 (c_oSize A na fa nc fc rm u1 w7 (hA.sub S)) rfl rfl ?_;rintro _ w9 ⟨s10, n5, e5, rfl, _, hx5⟩
 obtain ⟨rfl, rfl⟩ := hx5 m.map hC.isMap hC.map
 have S := S.trans s10;have hb_4 := hb_4.sub s10;have F1 := F1.sub s10;have o2 := o2.sub s10;have F3 := F3.sub s10;refine RL.mvS rfl ?_;refine RL.eS (.extract rfl rfl) ?_;refine RL.eS (.extract rfl rfl) ?_;refine RL.asS rfl ?_;refine RL.asS rfl ?_;refine RL.nil (RC.back (RC.seq (RC.seq (RC.region rfl ?_))));refine RL.mvS rfl ?_;refine RL.eS (.as (v' := .bool false) (.bin rfl rfl rfl) (congrArg Value.bool (decide_eq_false (fun h => h rfl)))) ?_;refine RL.mvS rfl ?_;refine RL.mvS rfl ?_;refine RL.eS (.as (v' := .bool false) (.bin rfl rfl rfl) (congrArg Value.bool (decide_eq_false (fun h => h rfl)))) ?_;refine RL.eS (.pick_f rfl rfl) ?_;refine RL.mvS rfl ?_;refine RL.mvS rfl ?_;refine RL.eS (.as (v' := .bool false) (.bin rfl rfl rfl) (congrArg Value.bool (decide_eq_false (fun h => h rfl)))) ?_;refine RL.eS (.pick_f rfl rfl) ?_;refine RL.mvS rfl ?_;refine RL.mvS rfl ?_;refine RL.eS (.as (v' := .bool false) (.bin rfl rfl rfl) (congrArg Value.bool (decide_eq_false (fun h => h rfl)))) ?_;refine RL.eS (.pick_f rfl rfl) ?_;refine RL.mvS rfl ?_;refine RL.mvS rfl ?_;refine RL.mvS rfl ?_;refine RL.eS (.len sl42 rfl) ?_;refine RL.eS (.as (v' := .bool false) (.bin rfl rfl rfl) (congrArg Value.bool (decide_eq_false (fun h => h rfl)))) ?_;refine RL.eS (.pick_f rfl rfl) ?_;refine RL.nil (RC.back ?_);refine RC.cond_f rfl ?_;refine RC.skip (RC.back (RC.seq (RC.region rfl ?_)));refine RL.mvS rfl ?_;refine RL.call rfl ok47 (c_sortK (rowH A rt) (by omega) a2 c2 w.heap.size w9 o2) rfl rfl ?_;rintro _ w11 ⟨rfl, ag, l', hp, hs, o2'⟩
 have S := S.agrN ag (fun k e => (o2.ge k e).1)
 have hb_4 := hb_4.step ag (fun e => d24 _ e rfl);have F1 := F1.step ag d21;have F3 := F3.step ag d23
 have o2 := o2'
 obtain rfl := hmt l' hp hs
 have k2' : m.tab.length ≤ c2 := (by rw [htl]; exact k2)
 have hts : ∀ t ∈ ([⟨m.map, a1, c1⟩, ⟨m.tab, a2, c2⟩, ⟨[], none, 0⟩] : List Tri), t.l.length ≤ 1000 := (by intro t ht; simp only [List.mem_cons, List.not_mem_nil, or_false] at ht; rcases ht with rfl | rfl | rfl; show m.map.length ≤ 1000; omega; show m.tab.length ≤ 1000; omega; exact Nat.zero_le _)
 have hcat : catT [⟨m.map, a1, c1⟩, ⟨m.tab, a2, c2⟩, ⟨[], none, 0⟩] = m.map ++ m.tab := (by simp [catT])
 refine RL.nil (RC.back (RC.seq (RC.seq (RC.region rfl ?_))));refine RL.mvS rfl ?_;refine RL.eS (.as (v' := .slice a2 m.tab.length c2) (.move rfl) (by rw [htl])) ?_;refine RL.mvS rfl ?_;refine RL.buildSliceN (vs := [_, _, _]) sl191 _ ze42 rfl ⟨rfl, rfl, rfl, trivial⟩ rfl rfl rfl rfl rfl rfl (fun b_79 w_79 e_79 z_79 hb_79 s_79 => ?_);have S := S.trans s_79;have hb_4 := hb_4.sub s_79;have F1 := F1.sub s_79;have o2 := o2.sub s_79;have F3 := F3.sub s_79;refine RL.call rfl ok50 (c_concat [⟨m.map, a1, c1⟩, ⟨m.tab, a2, c2⟩, ⟨[], none, 0⟩] (by simp) hts (some ⟨b_79, 0, none⟩) 3 w_79 (Has.sl1 (enc := Tri.v) (l := [⟨m.map, a1, c1⟩, ⟨m.tab, a2, c2⟩, ⟨[], none, 0⟩]) hb_79) (by intro t ht; simp only [List.mem_cons, List.not_mem_nil, or_false] at ht; rcases ht with rfl | rfl | rfl; exact F1.now; exact o2.sl.1; exact Sl.nil _ _ _)) rfl rfl ?_;rintro _ w13 ⟨s14, a8, c8, rfl, hc⟩
 rw [hcat] at hc
 rw [hcat]
 have S := S.trans s14;have hb_4 := hb_4.sub s14;have F1 := F1.sub s14;have o2 := o2.sub s14;have F3 := F3.sub s14
 obtain ⟨W1, S1, hc⟩ : ∃ W, Sub W w13 ∧ Sl W a8 2 ((m.map ++ m.tab).map It.cells) := ⟨_, Sub.refl _, hc⟩
 refine RL.eS (.len sl42 rfl) ?_;refine RL.mvS rfl ?_;refine RL.nil (RC.back (RC.block ?_));refine RC.loop (α := Nat) (fun i => [(4, .pointer (some ⟨b_4, 0, none⟩)), (6, .slice a1 m.map.length c1), (8, .slice a2 (rowH A rt).length c2), (10, .slice a3 m.row.length c3), (12, .slice none 0 0), (80, .slice a8 (m.map ++ m.tab).length c8), (81, .int .i64 ((m.map ++ m.tab).length : Int)), (82, .int .i64 (i : Int))]) (fun i w15 => i ≤ (m.map ++ m.tab).length ∧ Has w15 b_4 [.slice none 0 0, .slice none 0 0, .slice none 0 0, .slice none 0 0] 45 ∧ Ft (fun k => ob (.slice a1 m.map.length c1) = some k) (fun u => Sl u a1 2 (m.map.map It.cells)) w15 ∧ Ft (fun k => ob (.slice a3 m.row.length c3) = some k) (fun u => Sl u a3 1 (m.row.map fun x => [i6 x])) w15 ∧ Ows w.heap.size w15 51 2 (.slice a2 (rowH A rt).length c2) (m.tab.map It.cells) ∧ Sub W1 w15 ∧ Sub w w15) (fun i => (m.map ++ m.tab).length - i) 0 (keep_of (by repeat (first | exact trivial | refine And.intro rfl ?_))) (⟨Nat.zero_le _, hb_4, F1, F3, o2, S1, S⟩) (fun i w15 hJ => ?_)
 obtain ⟨hi, hb_4, F1, F3, o2, S1, S⟩ := hJ; have hml : (m.map ++ m.tab).length ≤ 400 := (by rw [List.length_append]; omega)
 refine RC.seq (RC.region rfl ?_);refine RL.eS (.bin rfl rfl rfl) ?_;refine RL.nil (RC.back (RC.seq ?_));refine RC.cond_dec rfl (fun h16 => ?_) (fun h16 => ?_)
 ·
  obtain ⟨x, hx⟩ := getSome (l := m.map ++ m.tab) (i := i) (by omega)
  have hxk : keyOk x := hC.keys x (by have h9 := List.mem_of_getElem? hx; rw [hh, List.append_nil]; exact h9)
  unfold keyOk at hxk
  refine RC.skip (RC.back (RC.seq (RC.block (RC.seq (RC.region rfl ?_)))));refine RL.eS (.indexS sl42 rfl rfl (by omega) (hc.is (i := 0) (by simp only [List.length_map, List.length_cons, List.length_nil]; omega))) ?_;refine RL.eS (.loadR (x.cells) sh51 rfl ((hc.sub S1).rowAt (enc := It.cells) (i := i) hx) rfl) ?_;refine RL.alloc ze51 rfl rfl (fun b_17 w_17 e_17 z_17 hb_17 s_17 => ?_);have ge_17 := S.le e_17;have n_4__17 := hb_4.ne e_17;have d_F1_b_17 := F1.neNew e_17;have d_F3_b_17 := F3.neNew e_17;have d_o2_b_17 := o2.neNew e_17;have S := S.trans s_17
  have geS1_17 := S1.le e_17
  have S1 := S1.trans s_17;have hb_4 := hb_4.sub s_17;have F1 := F1.sub s_17;have F3 := F3.sub s_17;have o2 := o2.sub s_17;refine RL.stS sh51 rfl rfl rfl hb_17 (fun w17 z17 hb_17 a17 => ?_);have S := S.upd a17 ge_17;have S1 := S1.upd a17 geS1_17;have hb_4 := hb_4.upd a17 n_4__17;have F1 := F1.updD a17 d_F1_b_17;have F3 := F3.updD a17 d_F3_b_17;have o2 := o2.updD a17 d_o2_b_17
  have hb_17 : Has w17 b_17 (x.cells) _ := hb_17.now (by kernel_rfl)
  refine RL.nil (RC.back (RC.seq (RC.region rfl ?_)));refine RL.eS (.field0 fo51_0 rfl) ?_;refine RL.eS (.load1 sh2 rfl (hb_17.cell rfl)) ?_;refine RL.eS (.bin rfl rfl rfl) ?_;refine RL.mvS rfl ?_;refine RL.split 89 rfl (fun h18 => ?_) (fun h18 => ?_)
  ·
   exact absurd h18 (by omega)
  ·
   refine RL.eS (.field0 fo51_0 rfl) ?_;refine RL.eS (.load1 sh2 rfl (hb_17.cell rfl)) ?_;refine RL.eS (.bin rfl rfl rfl) ?_;refine RL.eS (.pick_f rfl rfl) ?_;refine RL.nil (RC.back ?_);refine RC.cond_dec rfl (fun h19 => ?_) (fun h19 => ?_)
   ·
    exact absurd h19 (by omega)
   ·
    refine RC.skip (RC.back (RC.region rfl ?_));refine RL.eS (.as (.bin rfl rfl rfl) (wi64 (y := ((i + 1 : Nat) : Int)) (by omega) (by omega))) ?_;refine RL.mvS rfl ?_
    exact RL.nil (fun a ka => ⟨i + 1, ⟨by omega, hb_4, F1, F3, o2, S1, S⟩, by omega, ka.keep (keep_of (by repeat (first | exact trivial | refine And.intro rfl ?_)))⟩)
 ·
  refine RC.exit rfl (RC.back (RC.seq (RC.region rfl ?_)));refine RL.mvS rfl ?_;refine RL.eS (.as (v' := .slice a2 m.tab.length c2) (.move rfl) (by rw [htl])) ?_;refine RL.mvS rfl ?_;refine RL.eS (.as (v' := .slice none m.heap.length 0) (.move rfl) (by rw [hh]; rfl)) ?_;refine RL.eS (.buildS ze45 pl45 rfl rfl) ?_;refine RL.stS sh45 rfl rfl rfl hb_4 (fun w20 z20 hb_4 a20 => ?_);have S := S.upd a20 ge_4;have F1 := F1.updD a20 d_F1_b_4;have F3 := F3.updD a20 d_F3_b_4;have o2 := o2.updD a20 d24
  have hb_4 : Has w20 b_4 (moC ⟨a1, c1, a2, c2, a3, c3, none, 0⟩ m) _ := hb_4.now (by kernel_rfl)
  refine RL.asS rfl ?_;refine RL.nil (RC.back ?_);refine RC.done (rs := [.cell 4 45, .tmp 5]) (vs := [_, _]) rfl rfl ⟨⟨_, rfl, .inr ⟨moC ⟨a1, c1, a2, c2, a3, c3, none, 0⟩ m, sh45, hb_4.row, rfl⟩⟩, rfl, trivial⟩ ?_
  exact ⟨S, ⟨a1, c1, a2, c2, a3, c3, none, 0⟩, _, rfl, ⟨k1, k2', k3, by rw [hh]; exact Nat.le_refl _, by omega, by omega, by omega, by rw [hh]; exact Nat.zero_le _⟩, up1.or (up2.or up3), (F1.and (o2.ft.and F3)).imp fun u h => ⟨h.1, h.2.1.sl.1, h.2.2, by rw [hh]; exact Sl.nil _ _ _⟩⟩
end Go.Proofs.YtbjmllnddanniaaGreat
