/-
  Rows that are laid into an arena; the reference's Row, Apart, walked.
-/
import Derived.Test.YtefakjhfcgjhgaaDequeRef
set_option linter.unusedVariables false
set_option linter.unusedSimpArgs false
namespace Go.Proofs.Ytefakjhfcgjhgaa
open Go Go.XL

/-! ### the reference's Row and Apart -/
theorem c_row11 (A : Ar) (na fa : Option Addr) (nc fc : Nat) (hn : A.nodes.length ≤ 1000000000) (r : Int) (hr : U64 r) (w : World) (hA : ArR w na fa A) :
    FC Try.prog 22 [arV na fa nc fc A, .int .u64 r] w (fun u w' => Sub w w' ∧ ∃ a c V, u = .tuple #[.slice a (V.map fun x => [i6 x]).length c, .bool (isRowB A r)] ∧ Sl w' a 1 (V.map fun x => [i6 x]) ∧ V.length ≤ c ∧ V.length ≤ 201 ∧ ∀ V' P, isRow A r → IsR A r V' P → V = V') := by
  have hN := hA.nodes
  have hFr := hA.free
  refine FC.intro Try.func22 rfl Try.ntmps22 rfl ?_
  have S := Sub.refl w
  refine RC.seq ?_
  refine RC.region rfl ?_
  refine RL.box rfl rfl rfl (fun b_2 w_2 e_2 z_2 hb_2 s_2 => ?_)
  have ge_2 := S.le e_2
  have S := S.trans s_2
  have hb_2 : Has w_2 b_2 ([.slice na A.nodes.length nc, .slice fa A.free.length fc]) _ := hb_2
  refine RL.ev (.assign rfl) rfl rfl ?_
  refine RL.ev (.assign rfl) rfl rfl ?_
  refine RL.nil (RC.back ?_)
  refine RC.seq ?_
  refine RC.seq ?_
  refine RC.region rfl ?_
  refine RL.ev (.loadR ([.slice na A.nodes.length nc, .slice fa A.free.length fc]) sh26 rfl hb_2.row rfl) rfl rfl ?_
  refine RL.call rfl ok40 (c_r4Right A na fa nc fc w_2 (hA.sub S)) rfl rfl ?_
  rintro _ w1 ⟨rfl, s2⟩
  have S := S.trans s2
  have hb_2 := hb_2.sub s2
  refine RL.ev (.not rfl) rfl rfl ?_
  refine RL.nil (RC.back ?_)
  refine RC.cond rfl (fun h3 => ?_) (fun h3 => ?_)
  ·
    have hno : ¬ AOk A := (fun h => by have h2 := h3; rw [aokB_yes h] at h2; cases h2)
    refine RC.seq ?_
    refine RC.region rfl ?_
    refine RL.ev (.assign rfl) rfl rfl ?_
    refine RL.ev (.assign rfl) rfl rfl ?_
    refine RL.nil (RC.back ?_)
    refine RC.done (rs := [.tmp 4, .tmp 5]) (vs := [_, _]) rfl rfl ⟨rfl, rfl, trivial⟩ ?_
    -- end 1
    exact ⟨S, none, 0, [], by rw [isRowB_no (fun h => hno h.1)]; rfl, Sl.nil _ _ _, Nat.le_refl _, by simp, fun V' P h => absurd h.1 hno⟩
  ·
    have hok : AOk A := (aokB_iff A).1 (by simpa using h3)
    refine RC.skip (RC.back ?_)
    refine RC.seq ?_
    refine RC.region rfl ?_
    refine RL.ev (.loadR ([.slice na A.nodes.length nc, .slice fa A.free.length fc]) sh26 rfl hb_2.row rfl) rfl rfl ?_
    refine RL.ev (.buildS ze93 pl93 rfl rfl) rfl rfl ?_
    refine RL.ev (.move rfl) rfl rfl ?_
    refine RL.call rfl ok41 (c_read A na fa nc fc hn w hA w1.heap.size S.size 202 [] [] true none 0 none 0 r (fun _ => False) (fun _ => True) w1 hr (by decide) (by decide) (by decide) ⟨S, Nat.le_refl _, Ows.nil _ _ _ _, Ows.nil _ _ _ _, fun _ h => obNil h, ⟨fun _ h => h.elim, fun _ _ => trivial⟩, fun _ _ h => h.elim, fun _ _ h => h.elim⟩) rfl rfl ?_
    rintro vr w4 ⟨ma, mc, va, vc, hvr, hs⟩
    have rl := readF_len A 202 ([], [], true) r
    obtain ⟨⟨m, V, ok⟩, ht⟩ : ∃ t, readF A 202 ([], [], true) r = t := ⟨_, rfl⟩
    rw [ht] at hvr hs rl
    have hiff := rowR_iff (r := r) hok
    have hyes := fun V' P (h : IsR A r V' P) (hl : V'.length ≤ 200) => rowR_yes h hl
    unfold rowR at hiff hyes
    rw [ht] at hiff hyes
    simp only [List.length_nil] at rl hiff
    subst hvr
    have S := hs.S
    obtain ⟨W1, S1, ov⟩ : ∃ W1, Sub W1 w4 ∧ Ows _ W1 2 1 (.slice va (V.map fun x => [i6 x]).length vc) (V.map fun x => [i6 x]) := ⟨_, Sub.refl _, hs.ov⟩
    refine RL.alloc ze93 rfl rfl (fun b_6 w_6 e_6 z_6 hb_6 s_6 => ?_)
    have ge_6 := S.le e_6
    have S := S.trans s_6
    have geS1_6 := S1.le e_6
    have S1 := S1.trans s_6
    refine RL.store sh93 rfl rfl rfl hb_6 (by exact Nat.le_of_ble_eq_true rfl) (by rfl) rfl (fun w6 z6 hb_6 a6 => ?_)
    have S := S.upd a6 ge_6
    have S1 := S1.upd a6 geS1_6
    have hb_6 : Has w6 b_6 (tC (m, V, ok) ma mc va vc) _ := hb_6.now (by kernel_rfl)
    refine RL.nil (RC.back ?_)
    refine RC.seq ?_
    refine RC.drawD (fun k => False) [] w6.heap.size 12 rfl rfl mxo (fun w7 s8 => ?_)
    have hNN : ∀ k, ((False) ∨ w6.heap.size ≤ k) → w.heap.size ≤ k := fun k e => e.elim (fun e => e.elim) (fun e => Nat.le_trans S.size e)
    have ent_S := S.size
    have ent_S1 := S1.size
    have hN0 : ∀ k, w6.heap.size ≤ k → w.heap.size ≤ k := fun k e => Nat.le_trans S.size e
    have ltD_b_6 := hb_6.lt
    have szD := Nat.le_refl w6.heap.size
    have S := S.trans s8
    have S1 := S1.trans s8
    have hb_6 := hb_6.sub s8
    have szD := Nat.le_trans szD s8.size
    refine RD.take 0 rfl (by kernel_rfl) (by kernel_rfl) (by kernel_rfl) (fun w' s' => .field0 fo93_1 rfl) rfl rfl ?_
    refine RD.take 1 rfl (by kernel_rfl) (by kernel_rfl) (by kernel_rfl) (fun w' s' => .load1 sh22 rfl ((hb_6.step s' (fun e => e.elim (fun e => e.elim) (fun e => Nat.not_le.2 ltD_b_6 e))).cell rfl)) rfl rfl ?_
    refine RD.take 2 rfl (by kernel_rfl) (by kernel_rfl) (by kernel_rfl) (fun w' s' => .field0 fo93_2 rfl) rfl rfl ?_
    refine RD.take 3 rfl (by kernel_rfl) (by kernel_rfl) (by kernel_rfl) (fun w' s' => .load1 sh4 rfl ((hb_6.step s' (fun e => e.elim (fun e => e.elim) (fun e => Nat.not_le.2 ltD_b_6 e))).cell rfl)) rfl rfl ?_
    refine RD.take 4 rfl (by kernel_rfl) (by kernel_rfl) (by kernel_rfl) (fun w' s' => .move rfl) rfl rfl ?_
    refine RD.splitB 18 rfl (fun h9 => ?_) (fun h9 => ?_)
    ·
      have hok1 : ok = true := h9
      refine RD.take 5 rfl (by kernel_rfl) (by kernel_rfl) (by kernel_rfl) (fun w' s' => .field0 fo93_1 rfl) rfl rfl ?_
      refine RD.take 6 rfl (by kernel_rfl) (by kernel_rfl) (by kernel_rfl) (fun w' s' => .load1 sh22 rfl ((hb_6.step s' (fun e => e.elim (fun e => e.elim) (fun e => Nat.not_le.2 ltD_b_6 e))).cell rfl)) rfl rfl ?_
      refine RD.take 7 rfl (by kernel_rfl) (by kernel_rfl) (by kernel_rfl) (fun w' s' => .as (v' := .int .i64 (V.length : Int)) (.len sl22 rfl) (by rw [List.length_map])) rfl rfl ?_
      refine RD.take 8 rfl (by kernel_rfl) (by kernel_rfl) (by kernel_rfl) (fun w' s' => .bin rfl rfl rfl) rfl rfl ?_
      refine RD.take 9 rfl (by kernel_rfl) (by kernel_rfl) (by kernel_rfl) (fun w' s' => .pick_t rfl rfl) rfl rfl ?_
      refine RD.take 10 rfl (by kernel_rfl) (by kernel_rfl) (by kernel_rfl) (fun w' s' => .assign rfl) rfl rfl ?_
      refine RD.take 11 rfl (by kernel_rfl) (by kernel_rfl) (by kernel_rfl) (fun w' s' => .assign rfl) rfl rfl ?_
      refine RD.done (by kernel_rfl) (RC.back ?_)
      refine RC.done (rs := [.tmp 4, .tmp 5]) (vs := [_, _]) rfl rfl ⟨rfl, rfl, trivial⟩ ?_
      -- end 2
      have hVc : V.length ≤ vc := (by obtain ⟨_, c', e, h⟩ := ov.form; cases e; rw [List.length_map] at h; exact h)
      refine ⟨S, va, vc, V, ?_, (ov.sl.1).sub S1, hVc, by omega, fun V' P h h2 => by have := hyes V' P h2 (isRow_len h h2); simp only [Prod.mk.injEq] at this; exact this.2.1⟩
      by_cases hm : isRow A r
      · rw [isRowB_yes hm]
        have := hiff.2 hm
        first | exact absurd this.1 hok1 | (show tup [_, Value.bool (decide _)] = _; rw [decide_eq_true (by omega)]; rfl)
      · rw [isRowB_no hm]
        have hn2 : ¬ (ok = true ∧ V.length ≤ 200) := fun e => hm (hiff.1 e)
        first | rfl | (show tup [_, Value.bool (decide _)] = _; rw [decide_eq_false (fun e => hn2 ⟨hok1, by omega⟩)]; rfl)
    ·
      have hok1 : ¬ ok = true := (by simpa using h9)
      refine RD.takeOff 5 rfl (by kernel_rfl) (by kernel_rfl) (by kernel_rfl) rfl rfl ?_
      refine RD.takeOff 6 rfl (by kernel_rfl) (by kernel_rfl) (by kernel_rfl) rfl rfl ?_
      refine RD.takeOff 7 rfl (by kernel_rfl) (by kernel_rfl) (by kernel_rfl) rfl rfl ?_
      refine RD.takeOff 8 rfl (by kernel_rfl) (by kernel_rfl) (by kernel_rfl) rfl rfl ?_
      refine RD.take 9 rfl (by kernel_rfl) (by kernel_rfl) (by kernel_rfl) (fun w' s' => .pick_f rfl rfl) rfl rfl ?_
      refine RD.take 10 rfl (by kernel_rfl) (by kernel_rfl) (by kernel_rfl) (fun w' s' => .assign rfl) rfl rfl ?_
      refine RD.take 11 rfl (by kernel_rfl) (by kernel_rfl) (by kernel_rfl) (fun w' s' => .assign rfl) rfl rfl ?_
      refine RD.done (by kernel_rfl) (RC.back ?_)
      refine RC.done (rs := [.tmp 4, .tmp 5]) (vs := [_, _]) rfl rfl ⟨rfl, rfl, trivial⟩ ?_
      -- end 3
      have hVc : V.length ≤ vc := (by obtain ⟨_, c', e, h⟩ := ov.form; cases e; rw [List.length_map] at h; exact h)
      refine ⟨S, va, vc, V, ?_, (ov.sl.1).sub S1, hVc, by omega, fun V' P h h2 => by have := hyes V' P h2 (isRow_len h h2); simp only [Prod.mk.injEq] at this; exact this.2.1⟩
      by_cases hm : isRow A r
      · rw [isRowB_yes hm]
        have := hiff.2 hm
        first | exact absurd this.1 hok1 | (show tup [_, Value.bool (decide _)] = _; rw [decide_eq_true (by omega)]; rfl)
      · rw [isRowB_no hm]
        have hn2 : ¬ (ok = true ∧ V.length ≤ 200) := fun e => hm (hiff.1 e)
        first | rfl | (show tup [_, Value.bool (decide _)] = _; rw [decide_eq_false (fun e => hn2 ⟨hok1, by omega⟩)]; rfl)
def apartB (A : Ar) (x y : Int) : Bool := (readF A 202 (readF A 202 ([], [], true) x) y).2.2
theorem apartB_iff {A : Ar} {x y : Int} {V P U Q : List Int} (h : IsR A x V P) (k : IsR A y U Q) (hl : V.length + U.length ≤ 200) : apartB A x y = true ↔ ∀ p ∈ P, ¬ p ∈ Q := by
  have h1 := h.len
  have h2 := k.len
  have e1 : readF A 202 ([], [], true) x = (P, V, true) := by rw [readF_yes h 202 [] [] (by simp) (by simp; omega) (by simp)]; simp
  unfold apartB
  rw [e1]
  constructor
  · intro e
    obtain ⟨U', Q', k2, k3, _⟩ := readF_is 202 P V y (by omega) e
    obtain ⟨_, rfl⟩ := k.unique k2
    exact fun p hp hq => k3 p hq hp
  · intro hd
    rw [readF_yes k 202 P V (fun q hq hp => hd q hp hq) (by omega) (by omega)]
theorem c_apart (A : Ar) (na fa : Option Addr) (nc fc : Nat) (hn : A.nodes.length ≤ 1000000000) (x y : Int) (hx : U64 x) (hy : U64 y) (w : World) (hA : ArR w na fa A) :
    FC Try.prog 25 [arV na fa nc fc A, .int .u64 x, .int .u64 y] w (Val (.bool (apartB A x y)) w) := by
  have hN := hA.nodes
  have hFr := hA.free
  refine FC.intro Try.func25 rfl Try.ntmps25 rfl ?_
  have S := Sub.refl w
  refine RC.seq ?_
  refine RC.region rfl ?_
  refine RL.box rfl rfl rfl (fun b_3 w_3 e_3 z_3 hb_3 s_3 => ?_)
  have ge_3 := S.le e_3
  have S := S.trans s_3
  have hb_3 : Has w_3 b_3 ([.slice na A.nodes.length nc, .slice fa A.free.length fc]) _ := hb_3
  refine RL.ev (.assign rfl) rfl rfl ?_
  refine RL.nil (RC.back ?_)
  refine RC.seq ?_
  refine RC.region rfl ?_
  refine RL.ev (.loadR ([.slice na A.nodes.length nc, .slice fa A.free.length fc]) sh26 rfl hb_3.row rfl) rfl rfl ?_
  refine RL.ev (.buildS ze93 pl93 rfl rfl) rfl rfl ?_
  refine RL.ev (.move rfl) rfl rfl ?_
  obtain ⟨E, hE⟩ : ∃ E, E = w_3.heap.size := ⟨_, rfl⟩
  have gE := S.size
  rw [← hE] at gE
  refine RL.call rfl ok41 (c_read A na fa nc fc hn w hA E gE 202 [] [] true none 0 none 0 x (fun k => k = b_3) (fun u => Has u b_3 [.slice na A.nodes.length nc, .slice fa A.free.length fc] 26) w_3 hx (by decide) (by decide) (by decide) ⟨S, Nat.le_of_eq hE, Ows.nil _ _ _ _, Ows.nil _ _ _ _, fun _ h => obNil h, hb_3.ft, fun _ h => obNil h, fun _ h => obNil h⟩) rfl rfl ?_
  rintro vr w1 ⟨ma, mc, va, vc, hvr, hs⟩
  have rl := readF_len A 202 ([], [], true) x
  obtain ⟨⟨m, V, ok⟩, ht⟩ : ∃ t, readF A 202 ([], [], true) x = t := ⟨_, rfl⟩
  rw [ht] at hvr hs rl
  simp only [List.length_nil] at rl
  subst hvr
  have S := hs.S
  have hb_3 := hs.hI.now
  have om := hs.om
  have ov := hs.ov
  have dmv := hs.d
  have szR := hs.sz
  simp only [] at om ov dmv
  refine RL.alloc ze93 rfl rfl (fun b_7 w_7 e_7 z_7 hb_7 s_7 => ?_)
  have ge_7 := S.le e_7
  have n_3__7 := hb_3.ne e_7
  have d_om_b_7 := om.neNew e_7
  have d_ov_b_7 := ov.neNew e_7
  have S := S.trans s_7
  have hb_3 := hb_3.sub s_7
  have om := om.sub s_7
  have ov := ov.sub s_7
  have szR := Nat.le_trans szR s_7.size
  refine RL.store sh93 rfl rfl rfl hb_7 (by exact Nat.le_of_ble_eq_true rfl) (by rfl) rfl (fun w3 z3 hb_7 a3 => ?_)
  have S := S.upd a3 ge_7
  have hb_3 := hb_3.upd a3 n_3__7
  have om := om.updD a3 d_om_b_7
  have ov := ov.updD a3 d_ov_b_7
  have szR := Nat.le_trans szR a3.size
  have hb_7 : Has w3 b_7 (tC (m, V, ok) ma mc va vc) _ := hb_7.now (by kernel_rfl)
  refine RL.nil (RC.back ?_)
  refine RC.seq ?_
  refine RC.region rfl ?_
  refine RL.ev (.loadR ([.slice na A.nodes.length nc, .slice fa A.free.length fc]) sh26 rfl hb_3.row rfl) rfl rfl ?_
  refine RL.ev (.loadR (tC (m, V, ok) ma mc va vc) sh93 rfl hb_7.row rfl) rfl rfl ?_
  refine RL.ev (.move rfl) rfl rfl ?_
  refine RL.call rfl ok41 (c_read A na fa nc fc hn w hA E gE 202 m V ok ma mc va vc y (fun _ => False) (fun _ => True) w3 hy (by omega) (by omega) (by omega) ⟨S, szR, om, ov, dmv, ⟨fun _ h => h.elim, fun _ _ => trivial⟩, fun _ _ h => h.elim, fun _ _ h => h.elim⟩) rfl rfl ?_
  rintro vr w4 ⟨ma3, mc3, va3, vc3, hvr, hs3⟩
  subst hvr
  have S := hs3.S
  refine RL.ev (.fieldV Try.underlying93 rfl sh4 rfl rfl) rfl rfl ?_
  refine RL.ev (.assign rfl) rfl rfl ?_
  refine RL.nil (RC.back ?_)
  refine RC.done (rs := [.tmp 6]) (vs := [_]) rfl rfl ⟨rfl, trivial⟩ ?_
  -- end 1
  exact ⟨by unfold apartB; rw [ht]; rfl, S⟩
/-! ### Lay -/
def layG : Nat → List Node → Nat → List Int → List Node × Int
  | 0, ns, _, _ => (ns, 0)
  | k + 1, ns, at_, l => if l.length = 0 then (ns, 0) else
    ((layG k (layG k ns (at_ + 1) (l.take (l.length / 2))).1 (at_ + 1 + l.length / 2) (l.drop (l.length / 2 + 1))).1.set at_
      (rNode 0 (l.getD (l.length / 2) 0) l.length (layG k ns (at_ + 1) (l.take (l.length / 2))).2 (layG k (layG k ns (at_ + 1) (l.take (l.length / 2))).1 (at_ + 1 + l.length / 2) (l.drop (l.length / 2 + 1))).2), (at_ : Int) + 1)
theorem layG_nil (k : Nat) (ns : List Node) (at_ : Nat) : layG (k + 1) ns at_ [] = (ns, 0) := rfl
theorem layG_len : ∀ (k : Nat) (ns : List Node) (at_ : Nat) (l : List Int), (layG k ns at_ l).1.length = ns.length
  | 0, _, _, _ => rfl
  | k + 1, ns, at_, l => by
    rw [layG]
    split
    · rfl
    · simp only [List.length_set]; rw [layG_len, layG_len]
structure LayGk (ns : List Node) (at_ : Nat) (l : List Int) (res : List Node × Int) : Prop where
  same : ∀ i : Nat, (i < at_ ∨ at_ + l.length ≤ i) → res.1[i]? = ns[i]?
  isR : ∀ A : Ar, (∀ i : Nat, at_ ≤ i → i < at_ + l.length → A.nodes[i]? = res.1[i]?) → ∃ P, IsR A res.2 l P ∧ ∀ p ∈ P, (at_ : Int) ≤ p ∧ p < (at_ : Int) + l.length
  good : ∀ (i : Nat) y, at_ ≤ i → i < at_ + l.length → res.1[i]? = some y → y.kind = 5 ∧ well y = true ∧ ((∀ z ∈ l, I64 z) → y.ok)
  u : U64 res.2
  right : rightR res.2 = true
theorem split_mid {l : List Int} {t : Nat} (h : t < l.length) : l = l.take t ++ l.getD t 0 :: l.drop (t + 1) := by
  rw [List.getD_eq_getElem?_getD, List.getElem?_eq_getElem h]
  show l = l.take t ++ l[t] :: l.drop (t + 1)
  rw [← List.drop_eq_getElem_cons h, List.take_append_drop]
theorem lay_okG : ∀ (k : Nat) (ns : List Node) (at_ : Nat) (l : List Int), l.length < k → at_ + l.length ≤ ns.length → ns.length ≤ 512 → LayGk ns at_ l (layG k ns at_ l)
  | 0, _, _, _, h, _, _ => absurd h (by omega)
  | k + 1, ns, at_, l, hk, hat, hn => by
    by_cases ht : l.length = 0
    · obtain rfl := List.eq_nil_of_length_eq_zero ht
      rw [layG_nil]
      exact ⟨fun _ _ => rfl, fun A _ => ⟨[], .nil, by simp⟩, fun i y h1 h2 => absurd h2 (by simp; omega), zu64, (show rightR 0 = true by decide)⟩
    rw [layG, if_neg ht]
    obtain ⟨t, ht2⟩ : ∃ t, l.length / 2 = t := ⟨_, rfl⟩
    have htl : t < l.length := by omega
    rw [ht2]
    have hsp := split_mid htl
    obtain ⟨v, hv⟩ : ∃ v, l.getD t 0 = v := ⟨_, rfl⟩
    have hvm : v ∈ l := by rw [← hv, List.getD_eq_getElem?_getD, List.getElem?_eq_getElem htl]; exact List.getElem_mem htl
    rw [hv] at hsp ⊢
    have hL : (l.take t).length = t := by rw [List.length_take]; omega
    have hR : (l.drop (t + 1)).length = l.length - (t + 1) := List.length_drop
    have o1 := lay_okG k ns (at_ + 1) (l.take t) (by omega) (by omega) hn
    have e1 := layG_len k ns (at_ + 1) (l.take t)
    obtain ⟨⟨n1, a⟩, h1⟩ : ∃ p, layG k ns (at_ + 1) (l.take t) = p := ⟨_, rfl⟩
    rw [h1] at o1 e1 ⊢
    simp only [] at o1 e1 ⊢
    have o2 := lay_okG k n1 (at_ + 1 + t) (l.drop (t + 1)) (by omega) (by omega) (by omega)
    have e2 := layG_len k n1 (at_ + 1 + t) (l.drop (t + 1))
    obtain ⟨⟨n2, b⟩, h2⟩ : ∃ p, layG k n1 (at_ + 1 + t) (l.drop (t + 1)) = p := ⟨_, rfl⟩
    rw [h2] at o2 e2 ⊢
    simp only [] at o2 e2 ⊢
    have hp := place_of_at (a := at_) (by omega)
    have hself : (n2.set at_ (rNode 0 v l.length a b))[at_]? = some (rNode 0 v l.length a b) := List.getElem?_set_self (by omega)
    have hoth : ∀ i, ¬ i = at_ → (n2.set at_ (rNode 0 v l.length a b))[i]? = n2[i]? := fun i h => List.getElem?_set_ne (fun e => h e.symm)
    refine ⟨fun i h => ?_, fun A hA => ?_, fun i y h3 h4 hy => ?_, hp.2.2.1, hp.2.2.2⟩
    · have hi : ¬ i = at_ := by omega
      show (n2.set at_ _)[i]? = _
      rw [hoth i hi, o2.same i (by omega), o1.same i (by omega)]
    · have hlen : ((l.take t).length : Int) + (l.drop (t + 1)).length + 1 = l.length := by omega
      obtain ⟨P, hP, hPr⟩ := o1.isR A fun i q1 q2 => by rw [hA i (by omega) (by omega), hoth i (by omega), o2.same i (by omega)]
      obtain ⟨Q, hQ, hQr⟩ := o2.isR A fun i q1 q2 => by rw [hA i (by omega) (by omega), hoth i (by omega)]
      refine ⟨placeR ((at_ : Int) + 1) :: (P ++ Q), ?_, fun p hp2 => ?_⟩
      · rw [hsp]
        refine IsR.node (g := 0) (a := a) (b := b) ?_ hP hQ (List.nodup_cons.2 ⟨fun hin => ?_, List.nodup_append.2 ⟨hP.nodup, hQ.nodup, fun p hp1 q hq1 e => ?_⟩⟩)
        · rw [hlen]
          have hg := hA at_ (Nat.le_refl _) (by omega)
          rw [hself] at hg
          have hpp : (placeR ((at_ : Int) + 1)).toNat = at_ := by rw [hp.1]; exact Int.toNat_natCast _
          rw [getA_at (x := rNode 0 v l.length a b) (by rw [hp.1]; omega) (by rw [hpp]; exact hg), if_neg]
          rintro (e | e)
          · cases e
          · exact e hp.2.1.symm
        · rw [hp.1] at hin
          rcases List.mem_append.1 hin with h | h
          · have := hPr _ h; omega
          · have := hQr _ h; omega
        · have := hPr _ hp1; have := hQr _ hq1; omega
      · rcases List.mem_cons.1 hp2 with rfl | hp2
        · rw [hp.1]; omega
        · rcases List.mem_append.1 hp2 with h | h
          · have := hPr _ h; omega
          · have := hQr _ h; omega
    · by_cases e : i = at_
      · subst e
        change (n2.set i _)[i]? = _ at hy
        rw [hself] at hy
        cases hy
        refine ⟨rfl, (well_iff _).2 ⟨⟨Int.le_refl 0, (show (0 : Int) ≤ 1048576 by omega), Int.le_refl 0, (show (0 : Int) ≤ 9 by omega), Int.le_refl 0, (show (0 : Int) ≤ 9 by omega)⟩, ?_⟩, fun hok => ?_⟩
        · simp only [Node.kids, rNode, List.all_cons, o1.right, o2.right, List.all_nil, Bool.and_true, Bool.true_and]
          decide
        · refine ⟨(show I64 5 by unfold I64; omega), z64, z64, hok v hvm, (show I64 (l.length : Int) by unfold I64; omega), fun q hq => ?_, z64, z64⟩
          simp only [Node.kids, rNode, List.mem_cons, List.not_mem_nil, or_false] at hq
          rcases hq with rfl | rfl | rfl | rfl | rfl | rfl | rfl | rfl | rfl
          · exact o1.u
          · exact o2.u
          all_goals exact zu64
      · change (n2.set at_ _)[i]? = _ at hy
        rw [hoth i e] at hy
        by_cases q : i < at_ + 1 + t
        · rw [o2.same i (by omega)] at hy
          have := o1.good i y (by omega) (by omega) hy
          exact ⟨this.1, this.2.1, fun hok => this.2.2 (fun z hz => hok z (List.mem_of_mem_take hz))⟩
        · have := o2.good i y (by omega) (by omega) hy
          exact ⟨this.1, this.2.1, fun hok => this.2.2 (fun z hz => hok z (List.mem_of_mem_drop hz))⟩
def lay1 (size : Nat) (l : List Int) : List Node × Int := layG (l.length + 1) (List.replicate size (bareN 0)) 0 l
def lay2 (size : Nat) (l m : List Int) : List Node × Int := layG (m.length + 1) (lay1 size l).1 l.length m
def build2A (size : Nat) (l m : List Int) : Ar := ⟨(lay2 size l m).1, freeB size (size - (l.length + m.length))⟩
structure Build2 (size : Nat) (l m : List Int) : Prop where
  ok : AOk (build2A size l m)
  rows : ∃ P Q, IsR (build2A size l m) (if l.length = 0 then 0 else 1) l P ∧ IsR (build2A size l m) (lay2 size l m).2 m Q ∧ ∀ p ∈ P, ¬ p ∈ Q
  len : (build2A size l m).nodes.length = size
  free : (build2A size l m).free.length = size - (l.length + m.length)
  u : U64 (lay2 size l m).2
  nok : (∀ z ∈ l, I64 z) → (∀ z ∈ m, I64 z) → ∀ y ∈ (build2A size l m).nodes, y.ok
theorem lay1_ref (size : Nat) (l : List Int) : (lay1 size l).2 = if l.length = 0 then 0 else 1 := by
  unfold lay1; rw [layG]; split <;> rfl
theorem build2_ok {size : Nat} {l m : List Int} (h : l.length + m.length ≤ size) (h1 : 1 ≤ size) (h2 : size ≤ 512) : Build2 size l m := by
  have hrep : (List.replicate size (bareN 0)).length = size := List.length_replicate
  have o1 : LayGk _ 0 l (lay1 size l) := lay_okG (l.length + 1) (List.replicate size (bareN 0)) 0 l (by omega) (by omega) (by omega)
  have e1 : (lay1 size l).1.length = size := by unfold lay1; rw [layG_len, hrep]
  have o2 : LayGk _ l.length m (lay2 size l m) := lay_okG (m.length + 1) (lay1 size l).1 l.length m (by omega) (by omega) (by omega)
  have e2 : (lay2 size l m).1.length = size := by unfold lay2; rw [layG_len, e1]
  have hl : (build2A size l m).nodes.length = size := e2
  have hn : (build2A size l m).nodes = (lay2 size l m).1 := rfl
  have hout : ∀ (i : Nat) y, l.length + m.length ≤ i → (build2A size l m).nodes[i]? = some y → y = bareN 0 := fun i y hi hy => by
    rw [hn, o2.same i (by omega), o1.same i (by omega)] at hy
    exact (List.mem_replicate.1 (List.mem_of_getElem? hy)).2
  have hin : ∀ (i : Nat) y, i < l.length + m.length → (build2A size l m).nodes[i]? = some y → y.kind = 5 ∧ well y = true ∧ ((∀ z ∈ l, I64 z) → (∀ z ∈ m, I64 z) → y.ok) := fun i y hi hy => by
    by_cases q : i < l.length
    · rw [hn, o2.same i (by omega)] at hy
      have := o1.good i y (by omega) (by omega) hy
      exact ⟨this.1, this.2.1, fun h _ => this.2.2 h⟩
    · have := o2.good i y (by omega) (by omega) hy
      exact ⟨this.1, this.2.1, fun _ h => this.2.2 h⟩
  refine ⟨⟨by omega, by omega, ?_, ?_, freeB_nodup _ _, ?_, ?_, ?_⟩, ?_, hl, freeB_len _ _, o2.u, ?_⟩
  · rw [hl]; simp only [build2A]; rw [freeB_len]; omega
  · intro x hx; have := freeB_mem.1 hx; rw [hl]; omega
  · intro x hx
    obtain ⟨i, hi⟩ := List.getElem?_of_mem hx
    by_cases q : i < l.length + m.length
    · exact (hin i x q hi).2.1
    · rw [hout i x (by omega) hi]; decide
  · intro i x hx
    have hi := lt_of_get hx
    by_cases q : i < l.length + m.length
    · have := (hin i x q hx).1
      constructor
      · intro e; omega
      · intro hm; have := freeB_mem.1 hm; omega
    · rw [hout i x (by omega) hx]
      exact ⟨fun _ => freeB_mem.2 (by omega), fun _ => rfl⟩
  · intro i x hx hm
    have hi := lt_of_get hx
    have := freeB_mem.1 hm
    rw [hout i x (by omega) hx]; rfl
  · obtain ⟨P, hP, hPr⟩ := o1.isR (build2A size l m) (fun i q1 q2 => by rw [hn, o2.same i (by omega)])
    obtain ⟨Q, hQ, hQr⟩ := o2.isR (build2A size l m) (fun i _ _ => rfl)
    rw [lay1_ref] at hP
    exact ⟨P, Q, hP, hQ, fun p hp hq => by have := hPr p hp; have := hQr p hq; omega⟩
  · intro hok hok2 y hy
    obtain ⟨i, hi⟩ := List.getElem?_of_mem hy
    by_cases q : i < l.length + m.length
    · exact (hin i y q hi).2.2 hok hok2
    · rw [hout i y (by omega) hi]; exact bareN_ok z64
set_option maxHeartbeats 2000000 in
theorem c_lay11 (bN cN nn : Nat) : ∀ (k : Nat) (ns : List Node) (at_ : Nat) (l : List Int) (M : Nat → Prop) (a : Option Addr) (c m : Nat) (w : World), m = l.length → l.length ≤ c → l.length < k → at_ + l.length ≤ ns.length → ns.length = nn → nn ≤ 512 → Ft M (fun u => Sl u a 1 (l.map fun x => [i6 x])) w → (∀ k, M k → k ≠ bN) → Has w bN (ns.map Node.cells).flatten 73 →
    FC Try.prog 27 [.agg #[.slice (some ⟨bN, 0, none⟩) nn cN, .slice none 0 0], .int .i64 (at_ : Int), .slice a m c] w (fun v w' => v = .int .u64 (layG k ns at_ l).2 ∧ Agr (· = bN) w w' ∧ Has w' bN ((layG k ns at_ l).1.map Node.cells).flatten 73) := by
  intro k
  induction k with
  | zero => intro ns at_ l M a c m w _ _ h; omega
  | succ k ih =>
  intro ns at_ l M a c m w hm hc hk hat hnn h512 hI dN hbN
  subst hm
  refine FC.intro Try.func27 rfl Try.ntmps27 rfl ?_
  have G : Agr (· = bN) w w := Agr.refl _ _
  refine RC.seq ?_
  refine RC.region rfl ?_
  refine RL.box rfl rfl rfl (fun b_3 w_3 e_3 z_3 hb_3 s_3 => ?_)
  have nN__3 := hbN.ne e_3
  have d_hI_b_3 := hI.neNew e_3
  have geG_3 := agLe G e_3
  have G := G.trans s_3.agr
  have hbN := hbN.sub s_3
  have hI := hI.sub s_3
  have hb_3 : Has w_3 b_3 ([.slice (some ⟨bN, 0, none⟩) nn cN, .slice none 0 0]) _ := hb_3
  refine RL.ev (.assign rfl) rfl rfl ?_
  refine RL.nil (RC.back ?_)
  refine RC.seq ?_
  refine RC.seq ?_
  refine RC.region rfl ?_
  refine RL.ev (.move rfl) rfl rfl ?_
  refine RL.ev (.len sl22 rfl) rfl rfl ?_
  refine RL.ev (.bin rfl rfl rfl) rfl rfl ?_
  refine RL.nil (RC.back ?_)
  refine RC.cond_dec rfl (fun h1 => ?_) (fun h1 => ?_)
  ·
    have ht : l.length = 0 := (by omega)
    obtain rfl := List.eq_nil_of_length_eq_zero ht
    refine RC.seq ?_
    refine RC.region rfl ?_
    refine RL.ev (.assign rfl) rfl rfl ?_
    refine RL.nil (RC.back ?_)
    refine RC.done (rs := [.tmp 6]) (vs := [_]) rfl rfl ⟨rfl, trivial⟩ ?_
    -- end 1
    exact ⟨rfl, G, hbN⟩
  ·
    have ht : ¬ l.length = 0 := (by omega)
    obtain ⟨t, ht3⟩ : ∃ t : Nat, l.length / 2 = t := ⟨_, rfl⟩
    have htl : t < l.length := (by omega)
    obtain ⟨v, hv⟩ := getSome (l := l) (i := t) htl
    have hgd : l.getD t 0 = v := (by rw [List.getD_eq_getElem?_getD, hv]; rfl)
    have hL : (l.take t).length = t := (by rw [List.length_take]; omega)
    have hR : (l.drop (t + 1)).length = l.length - (t + 1) := List.length_drop
    refine RC.skip (RC.back ?_)
    refine RC.seq ?_
    refine RC.region rfl ?_
    refine RL.ev (.move rfl) rfl rfl ?_
    refine RL.ev (.len sl22 rfl) rfl rfl ?_
    refine RL.ev (.as (.quo rfl rfl (by decide)) (wi64 (y := (t : Int)) (by rw [Int.tdiv_eq_ediv_of_nonneg (by omega)]; omega) (by omega))) rfl rfl ?_
    refine RL.ev (.assign rfl) rfl rfl ?_
    refine RL.nil (RC.back ?_)
    refine RC.seq ?_
    refine RC.region rfl ?_
    refine RL.ev (.move rfl) rfl rfl ?_
    refine RL.ev (.move rfl) rfl rfl ?_
    refine RL.ev (.indexS sl22 rfl rfl (by omega) (hI.now.is (i := 0) (by simp only [List.length_map]; omega))) rfl rfl ?_
    refine RL.ev (.load1 sh2 rfl (hI.now.one (enc := i6) (i := t) hv)) rfl rfl ?_
    refine RL.ev (.move rfl) rfl rfl ?_
    refine RL.ev (.len sl22 rfl) rfl rfl ?_
    refine RL.ev (.buildS ze73 pl73 rfl rfl) rfl rfl ?_
    refine RL.alloc ze73 rfl rfl (fun b_8 w_8 e_8 z_8 hb_8 s_8 => ?_)
    have nN__8 := hbN.ne e_8
    have n_3__8 := hb_3.ne e_8
    have d_hI_b_8 := hI.neNew e_8
    have geG_8 := agLe G e_8
    have G := G.trans s_8.agr
    have hbN := hbN.sub s_8
    have hI := hI.sub s_8
    have hb_3 := hb_3.sub s_8
    refine RL.store sh73 rfl rfl rfl hb_8 (by exact Nat.le_of_ble_eq_true rfl) (by rfl) rfl (fun w2 z2 hb_8 a2 => ?_)
    have G := agNew G a2 geG_8
    have hbN := hbN.upd a2 nN__8
    have hI := hI.updD a2 d_hI_b_8
    have hb_3 := hb_3.upd a2 n_3__8
    have hb_8 : Has w2 b_8 ((rNode 0 v l.length 0 0).cells) _ := hb_8.now (by kernel_rfl)
    refine RL.nil (RC.back ?_)
    refine RC.seq ?_
    refine RC.drawD (fun k => k = b_8 ∨ k = bN) [6, 9] w2.heap.size 10 rfl rfl mxo (fun w3 s4 => ?_)
    have ltD_bN := hbN.lt
    have ltD_hI := fun k hk => (hI.ge k hk).2
    have ltD_b_3 := hb_3.lt
    have ltD_b_8 := hb_8.lt
    have szD := Nat.le_refl w2.heap.size
    have G := G.trans s4.agr
    have hbN := hbN.sub s4
    have hI := hI.sub s4
    have hb_3 := hb_3.sub s4
    have hb_8 := hb_8.sub s4
    have szD := Nat.le_trans szD s4.size
    refine RD.take 0 rfl (by kernel_rfl) (by kernel_rfl) (by kernel_rfl) (fun w' s' => .loadR ([.slice (some ⟨bN, 0, none⟩) nn cN, .slice none 0 0]) sh26 rfl (hb_3.step s' (fun e => e.elim (fun e => e.elim (fun e => n_3__8 e) (fun e => nN__3.symm e)) (fun e => Nat.not_le.2 ltD_b_3 e))).row rfl) rfl rfl ?_
    refine RD.take 1 rfl (by kernel_rfl) (by kernel_rfl) (by kernel_rfl) (fun w' s' => .move rfl) rfl rfl ?_
    refine RD.take 2 rfl (by kernel_rfl) (by kernel_rfl) (by kernel_rfl) (fun w' s' => .as (.bin rfl rfl rfl) (wi64 (y := ((at_ + 1 : Nat) : Int)) (by omega) (by omega))) rfl rfl ?_
    refine RD.take 3 rfl (by kernel_rfl) (by kernel_rfl) (by kernel_rfl) (fun w' s' => .move rfl) rfl rfl ?_
    refine RD.take 4 rfl (by kernel_rfl) (by kernel_rfl) (by kernel_rfl) (fun w' s' => .move rfl) rfl rfl ?_
    refine RD.take 5 rfl (by kernel_rfl) (by kernel_rfl) (by kernel_rfl) (fun w' s' => .sliceHi sl22 rfl rfl (by omega)) rfl rfl ?_
    refine RD.take 7 rfl (by kernel_rfl) (by kernel_rfl) (by kernel_rfl) (fun w' s' => .field0 fo73_5 rfl) rfl rfl ?_
    refine RD.all [6] (by kernel_rfl) rfl (RDs.cons rfl ?_ (RDs.nil))
    refine RL.call rfl ok27 (ih ns (at_ + 1) (l.take t) M a c t w3 hL.symm (by omega) (by omega) (by omega) hnn h512 (hI.imp fun u h => slTakeM h _) dN hbN) rfl rfl ?_
    rintro v1 w5 ⟨hv1, ag1, hN1⟩
    have G := G.trans ag1
    have hI := hI.updD ag1 dN
    have hb_3 := hb_3.upd ag1 nN__3.symm
    have hb_8 := hb_8.upd ag1 nN__8.symm
    have szD := Nat.le_trans szD ag1.size
    obtain ⟨⟨n1, a1⟩, h1⟩ : ∃ p, layG k ns (at_ + 1) (l.take t) = p := ⟨_, rfl⟩
    have e1 := layG_len k ns (at_ + 1) (l.take t)
    rw [h1] at hv1 hN1 e1
    simp only [] at hv1 hN1 e1
    subst hv1
    have hbN := hN1
    refine RD.backW rfl (ag1.mono fun k _ e => .inl (.inr e)) ?_
    refine RD.take 8 rfl (by kernel_rfl) (by kernel_rfl) (by kernel_rfl) (fun w' s' => .indexArr ar71 rfl rfl (by omega)) rfl rfl ?_
    refine RD.all [9] (by kernel_rfl) rfl (RDs.cons rfl ?_ (RDs.nil))
    refine RL.store sh28 rfl rfl rfl hb_8 (by exact Nat.le_of_ble_eq_true rfl) (by rfl) rfl (fun w7 z7 hb_8 a7 => ?_)
    have G := agNew G a7 geG_8
    have hbN := hbN.upd a7 nN__8
    have hI := hI.updD a7 d_hI_b_8
    have hb_3 := hb_3.upd a7 n_3__8
    have szD := Nat.le_trans szD a7.size
    have hb_8 : Has w7 b_8 (rNode 0 v l.length a1 0).cells 73 := hb_8
    refine RD.backW rfl (a7.mono fun k _ e => e ▸ (.inl (.inl rfl))) ?_
    refine RD.done (by kernel_rfl) (RC.back ?_)
    refine RC.seq ?_
    refine RC.drawD (fun k => k = b_8 ∨ k = bN) [9, 12] w7.heap.size 13 rfl rfl mxo (fun w8 s9 => ?_)
    have ltD_bN := hbN.lt
    have ltD_hI := fun k hk => (hI.ge k hk).2
    have ltD_b_3 := hb_3.lt
    have ltD_b_8 := hb_8.lt
    have szD := Nat.le_refl w7.heap.size
    have G := G.trans s9.agr
    have hbN := hbN.sub s9
    have hI := hI.sub s9
    have hb_3 := hb_3.sub s9
    have hb_8 := hb_8.sub s9
    have szD := Nat.le_trans szD s9.size
    refine RD.take 0 rfl (by kernel_rfl) (by kernel_rfl) (by kernel_rfl) (fun w' s' => .loadR ([.slice (some ⟨bN, 0, none⟩) nn cN, .slice none 0 0]) sh26 rfl (hb_3.step s' (fun e => e.elim (fun e => e.elim (fun e => n_3__8 e) (fun e => nN__3.symm e)) (fun e => Nat.not_le.2 ltD_b_3 e))).row rfl) rfl rfl ?_
    refine RD.take 1 rfl (by kernel_rfl) (by kernel_rfl) (by kernel_rfl) (fun w' s' => .move rfl) rfl rfl ?_
    refine RD.take 2 rfl (by kernel_rfl) (by kernel_rfl) (by kernel_rfl) (fun w' s' => .as (.bin rfl rfl rfl) (wi64 (y := ((at_ + 1 : Nat) : Int)) (by omega) (by omega))) rfl rfl ?_
    refine RD.take 3 rfl (by kernel_rfl) (by kernel_rfl) (by kernel_rfl) (fun w' s' => .move rfl) rfl rfl ?_
    refine RD.take 4 rfl (by kernel_rfl) (by kernel_rfl) (by kernel_rfl) (fun w' s' => .as (.bin rfl rfl rfl) (wi64 (y := ((at_ + 1 + t : Nat) : Int)) (by omega) (by omega))) rfl rfl ?_
    refine RD.take 5 rfl (by kernel_rfl) (by kernel_rfl) (by kernel_rfl) (fun w' s' => .move rfl) rfl rfl ?_
    refine RD.take 6 rfl (by kernel_rfl) (by kernel_rfl) (by kernel_rfl) (fun w' s' => .move rfl) rfl rfl ?_
    refine RD.take 7 rfl (by kernel_rfl) (by kernel_rfl) (by kernel_rfl) (fun w' s' => .as (.bin rfl rfl rfl) (wi64 (y := ((t + 1 : Nat) : Int)) (by omega) (by omega))) rfl rfl ?_
    refine RD.take 8 rfl (by kernel_rfl) (by kernel_rfl) (by kernel_rfl) (fun w' s' => .sliceLo sl22 rfl rfl (by omega)) rfl rfl ?_
    refine RD.take 10 rfl (by kernel_rfl) (by kernel_rfl) (by kernel_rfl) (fun w' s' => .field0 fo73_5 rfl) rfl rfl ?_
    refine RD.all [9] (by kernel_rfl) rfl (RDs.cons rfl ?_ (RDs.nil))
    refine RL.call rfl ok27 (ih n1 (at_ + 1 + t) (l.drop (t + 1)) M _ _ (l.length - (t + 1)) w8 hR.symm (by rw [hR]; show _ ≤ c - (t + 1); omega) (by omega) (by omega) (by omega) h512 (hI.imp fun u h => slDropM h (t + 1) hc) dN hbN) rfl rfl ?_
    rintro v2 w10 ⟨hv2, ag2, hN2⟩
    have G := G.trans ag2
    have hI := hI.updD ag2 dN
    have hb_3 := hb_3.upd ag2 nN__3.symm
    have hb_8 := hb_8.upd ag2 nN__8.symm
    have szD := Nat.le_trans szD ag2.size
    obtain ⟨⟨n2, a2⟩, h2⟩ : ∃ p, layG k n1 (at_ + 1 + t) (l.drop (t + 1)) = p := ⟨_, rfl⟩
    have e2 := layG_len k n1 (at_ + 1 + t) (l.drop (t + 1))
    rw [h2] at hv2 hN2 e2
    simp only [] at hv2 hN2 e2
    subst hv2
    have hbN := hN2
    refine RD.backW rfl (ag2.mono fun k _ e => .inl (.inr e)) ?_
    refine RD.take 11 rfl (by kernel_rfl) (by kernel_rfl) (by kernel_rfl) (fun w' s' => .indexArr ar71 rfl rfl (by omega)) rfl rfl ?_
    refine RD.all [12] (by kernel_rfl) rfl (RDs.cons rfl ?_ (RDs.nil))
    refine RL.store sh28 rfl rfl rfl hb_8 (by exact Nat.le_of_ble_eq_true rfl) (by rfl) rfl (fun w12 z12 hb_8 a12 => ?_)
    have G := agNew G a12 geG_8
    have hbN := hbN.upd a12 nN__8
    have hI := hI.updD a12 d_hI_b_8
    have hb_3 := hb_3.upd a12 n_3__8
    have szD := Nat.le_trans szD a12.size
    have hb_8 : Has w12 b_8 (rNode 0 v l.length a1 a2).cells 73 := hb_8
    have hres : layG (k + 1) ns at_ l = (n2.set at_ (rNode 0 v l.length a1 a2), (at_ : Int) + 1) := (by rw [layG, if_neg ht, ht3, hgd, h1]; simp only []; rw [h2])
    refine RD.backW rfl (a12.mono fun k _ e => e ▸ (.inl (.inl rfl))) ?_
    refine RD.done (by kernel_rfl) (RC.back ?_)
    refine RC.seq ?_
    refine RC.region rfl ?_
    refine RL.ev (.field0 fo26_0 rfl) rfl rfl ?_
    refine RL.ev (.load1 sh23 rfl (hb_3.cell rfl)) rfl rfl ?_
    refine RL.ev (.move rfl) rfl rfl ?_
    refine RL.ev (.loadR ((rNode 0 v l.length a1 a2).cells) sh73 rfl hb_8.row rfl) rfl rfl ?_
    refine RL.ev (.indexO sl23 rfl rfl (by omega)) rfl rfl ?_
    refine RL.store sh73 rfl rfl rfl hbN (by rw [flat_len (sz := 16) _ (fun r hr => by obtain ⟨z, _, rfl⟩ := List.mem_map.1 hr; rfl), List.length_map]; show 0 + at_ * 16 + 16 ≤ _; omega) (by rfl) rfl (fun w13 z13 hbN a13 => ?_)
    have G := G.trans a13
    have hI := hI.updD a13 dN
    have hb_3 := hb_3.upd a13 nN__3.symm
    have hb_8 := hb_8.upd a13 nN__8.symm
    have hbN := row_set0 (sz := 16) (i := at_) (by rw [Nat.zero_add] at hbN; exact hbN) (fun r hr => by obtain ⟨z, _, rfl⟩ := List.mem_map.1 hr; rfl) (by rw [List.length_map]; omega) rfl
    refine RL.nil (RC.back ?_)
    refine RC.seq ?_
    refine RC.region rfl ?_
    refine RL.ev (.move rfl) rfl rfl ?_
    refine RL.ev (.as (.bin rfl rfl rfl) (wi64 (y := (at_ : Int) + 1) (by rfl) (by omega))) rfl rfl ?_
    refine RL.ev (.as (.conv i3 i28 rfl) (wu64 (y := (at_ : Int) + 1) (by rfl) (by omega))) rfl rfl ?_
    refine RL.ev (.assign rfl) rfl rfl ?_
    refine RL.nil (RC.back ?_)
    refine RC.done (rs := [.tmp 6]) (vs := [_]) rfl rfl ⟨rfl, trivial⟩ ?_
    -- end 2
    rw [hres]
    exact ⟨rfl, G, by rw [List.map_set]; exact hbN⟩
set_option maxHeartbeats 1000000 in
theorem c_build11 (size : Nat) (l m : List Int) (a b : Option Addr) (c d n k : Nat) (hn : n = l.length) (hk : k = m.length) (hc : l.length ≤ c) (hd : m.length ≤ d) (hl64 : ∀ z ∈ l, I64 z) (hm64 : ∀ z ∈ m, I64 z) (h : l.length + m.length ≤ size) (h1 : 1 ≤ size) (h2 : size ≤ 512) (w : World) (hl : Sl w a 1 (l.map fun x => [i6 x])) (hm : Sl w b 1 (m.map fun x => [i6 x])) :
    FC Try.prog 10 [.int .i64 (size : Int), .slice a n c, .slice b k d] w (fun v w' => ∃ na fa nc fc, v = .tuple #[arV na fa nc fc (build2A size l m), .int .u64 (lay2 size l m).2] ∧ (build2A size l m).nodes.length ≤ nc ∧ (build2A size l m).free.length ≤ fc ∧ (∀ N : Nat → Prop, (∀ k, N k → k < w.heap.size) → Imm N (fun u => ArR u na fa (build2A size l m)) w') ∧ Sub w w') := by
  subst hn hk
  have hB := build2_ok h h1 h2
  have hBl := hB.len
  have hBf := hB.free
  have hl1 : (lay1 size l).1.length = size := by unfold lay1; rw [layG_len, List.length_replicate]
  refine FC.intro Try.func10 rfl Try.ntmps10 rfl ?_
  have S := Sub.refl w
  refine RC.seq ?_
  refine RC.region rfl ?_
  refine RL.alloc ze26 rfl rfl (fun b_6 w_6 e_6 z_6 hb_6 s_6 => ?_)
  have ge_6 := S.le e_6
  have S := S.trans s_6
  refine RL.ev (.assign rfl) rfl rfl ?_
  refine RL.nil (RC.back ?_)
  refine RC.seq ?_
  refine RC.region rfl ?_
  refine RL.ev (.move rfl) rfl rfl ?_
  refine RL.makeSlice sl23 ze73 rfl rfl rfl rfl (by omega) rfl rfl (fun b_12 w_12 e_12 z_12 hb_12 s_12 => ?_)
  have ge_12 := S.le e_12
  have n_6__12 := hb_6.ne e_12
  have S := S.trans s_12
  have hb_6 := hb_6.sub s_12
  have hb_12 : Has w_12 b_12 ((List.replicate size (bareN 0)).map Node.cells).flatten 73 := by have := hb_12; rw [Int.toNat_natCast] at this; rw [List.map_replicate]; exact this
  refine RL.ev (.buildS ze26 pl26 rfl rfl) rfl rfl ?_
  refine RL.alloc ze26 rfl rfl (fun b_8 w_8 e_8 z_8 hb_8 s_8 => ?_)
  have ge_8 := S.le e_8
  have n_6__8 := hb_6.ne e_8
  have n_12__8 := hb_12.ne e_8
  have S := S.trans s_8
  have hb_6 := hb_6.sub s_8
  have hb_12 := hb_12.sub s_8
  refine RL.store sh26 rfl rfl rfl hb_8 (by exact Nat.le_of_ble_eq_true rfl) (by rfl) rfl (fun w1 z1 hb_8 a1 => ?_)
  have S := S.upd a1 ge_8
  have hb_6 := hb_6.upd a1 n_6__8
  have hb_12 := hb_12.upd a1 n_12__8
  have hb_8 : Has w1 b_8 ([.slice (some ⟨b_12, 0, none⟩) size size, .slice none 0 0]) _ := hb_8.now (by kernel_rfl)
  refine RL.nil (RC.back ?_)
  refine RC.seq ?_
  refine RC.region rfl ?_
  refine RL.ev (.loadR ([.slice (some ⟨b_12, 0, none⟩) size size, .slice none 0 0]) sh26 rfl hb_8.row rfl) rfl rfl ?_
  refine RL.ev (.move rfl) rfl rfl ?_
  refine RL.call rfl ok27 (c_lay11 b_12 size size (l.length + 1) (List.replicate size (bareN 0)) 0 l _ a c l.length w1 rfl hc (by omega) (by rw [List.length_replicate]; omega) List.length_replicate h2 ((Ft.of_sub (fun u s => hl.sub s)).sub S) (fun k hk e => by omega) hb_12) rfl rfl ?_
  rintro _ w2 ⟨rfl, ag1, hN1⟩
  have S := S.upd ag1 ge_12
  have hb_6 := hb_6.upd ag1 n_6__12
  have hb_8 := hb_8.upd ag1 n_12__8.symm
  have hb_12 : Has w2 b_12 ((lay1 size l).1.map Node.cells).flatten 73 := hN1
  refine RL.nil (RC.back ?_)
  refine RC.seq ?_
  refine RC.region rfl ?_
  refine RL.ev (.loadR ([.slice (some ⟨b_12, 0, none⟩) size size, .slice none 0 0]) sh26 rfl hb_8.row rfl) rfl rfl ?_
  refine RL.ev (.move rfl) rfl rfl ?_
  refine RL.ev (.as (v' := .int .i64 (l.length : Int)) (.len sl22 rfl) (by rfl)) rfl rfl ?_
  refine RL.ev (.move rfl) rfl rfl ?_
  refine RL.call rfl ok27 (c_lay11 b_12 size size (m.length + 1) (lay1 size l).1 l.length m _ b d m.length w2 rfl hd (by omega) (by omega) hl1 h2 ((Ft.of_sub (fun u s => hm.sub s)).sub S) (fun k hk e => by omega) hb_12) rfl rfl ?_
  rintro _ w4 ⟨rfl, ag2, hN2⟩
  have S := S.upd ag2 ge_12
  have hb_6 := hb_6.upd ag2 n_6__12
  have hb_8 := hb_8.upd ag2 n_12__8.symm
  have hb_12 : Has w4 b_12 ((build2A size l m).nodes.map Node.cells).flatten 73 := hN2
  refine RL.ev (.as (v' := .int .u64 (lay2 size l m).2) (.assign rfl) (by rfl)) rfl rfl ?_
  refine RL.nil (RC.back ?_)
  refine RC.seq ?_
  refine RC.seq ?_
  refine RC.region rfl ?_
  refine RL.ev (.move rfl) rfl rfl ?_
  refine RL.ev (.as (.bin rfl rfl rfl) (wi64 (y := (size : Int) - 1 - ((0 : Nat) : Int)) (by omega) (by omega))) rfl rfl ?_
  refine RL.ev (.assign rfl) rfl rfl ?_
  obtain ⟨E, hE⟩ : ∃ E, E = w4.heap.size := ⟨_, rfl⟩
  have lt6 := hb_6.lt
  have lt8 := hb_8.lt
  have lt12 := hb_12.lt
  have szS := S.size
  rw [← hE] at lt6 lt8 lt12 szS
  refine RL.nil (RC.back ?_)
  refine RC.block ?_
  refine RC.loop (α := Nat × Option Addr × Nat × Nat) (fun x => [(1, .slice a l.length c), (2, .slice b m.length d), (6, .pointer (some ⟨b_6, 0, none⟩)), (8, .pointer (some ⟨b_8, 0, none⟩)), (9, .int .u64 (lay2 size l m).2), (10, .int .i64 ((size : Int) - 1 - (x.1 : Int)))]) (fun x w6 => x.1 ≤ size - (l.length + m.length) ∧ Ows E w6 3 1 (.slice x.2.1 x.2.2.1 x.2.2.2) ((freeB size x.1).map fun x => [i6 x]) ∧ Has w6 b_6 [.slice none 0 0, .slice none 0 0] 26 ∧ Has w6 b_8 [.slice (some ⟨b_12, 0, none⟩) size size, .slice x.2.1 x.2.2.1 x.2.2.2] 26 ∧ Has w6 b_12 ((build2A size l m).nodes.map Node.cells).flatten 73 ∧ E ≤ w6.heap.size ∧ Sub w w6) (fun x => size - (l.length + m.length) - x.1) (0, none, 0, 0) (keep_of (by repeat (first | exact trivial | refine And.intro rfl ?_))) (⟨Nat.zero_le _, Ows.nil _ _ _ _, hb_6, hb_8, hb_12, by omega, S⟩) (fun x w6 hJ => ?_)
  obtain ⟨i, a_u, m_u, c_u⟩ := x; obtain ⟨hi, o, hb_6, hb_8, hb_12, szB, S⟩ := hJ; simp only [] at hi o hb_8; obtain rfl := o.sl.2; have hfl := freeB_len size i
  refine RC.seq ?_
  refine RC.seq ?_
  refine RC.region rfl ?_
  refine RL.ev (.move rfl) rfl rfl ?_
  refine RL.ev (.move rfl) rfl rfl ?_
  refine RL.ev (.len sl22 rfl) rfl rfl ?_
  refine RL.ev (.move rfl) rfl rfl ?_
  refine RL.ev (.len sl22 rfl) rfl rfl ?_
  refine RL.ev (.as (.bin rfl rfl rfl) (wi64 (y := ((l.length + m.length : Nat) : Int)) (by omega) (by omega))) rfl rfl ?_
  refine RL.ev (.bin rfl rfl rfl) rfl rfl ?_
  refine RL.nil (RC.back ?_)
  refine RC.cond_dec rfl (fun h7 => ?_) (fun h7 => ?_)
  ·
    have d6 : ∀ k, ob (.slice a_u ((freeB size i).map fun x => [i6 x]).length c_u) = some k → k ≠ b_6 := fun k hk e => absurd (o.ge k hk).1 (by omega)
    have d8 : ∀ k, ob (.slice a_u ((freeB size i).map fun x => [i6 x]).length c_u) = some k → k ≠ b_8 := fun k hk e => absurd (o.ge k hk).1 (by omega)
    have d12 : ∀ k, ob (.slice a_u ((freeB size i).map fun x => [i6 x]).length c_u) = some k → k ≠ b_12 := fun k hk e => absurd (o.ge k hk).1 (by omega)
    refine RC.skip (RC.back ?_)
    refine RC.seq ?_
    refine RC.block ?_
    refine RC.region rfl ?_
    refine RL.ev (.field0 fo26_1 rfl) rfl rfl ?_
    refine RL.ev (.load1 sh24 rfl (hb_8.cell rfl)) rfl rfl ?_
    refine RL.ev (.move rfl) rfl rfl ?_
    refine RL.buildSlice1 sl24 _ ze3 rfl rfl rfl rfl rfl rfl rfl (fun b_36 w_36 e_36 z_36 hb_36 s_36 => ?_)
    have ge_36 := S.le e_36
    have n_6__36 := hb_6.ne e_36
    have n_8__36 := hb_8.ne e_36
    have n_12__36 := hb_12.ne e_36
    have d_o_b_36 := o.neNew e_36
    have S := S.trans s_36
    have hb_6 := hb_6.sub s_36
    have hb_8 := hb_8.sub s_36
    have hb_12 := hb_12.sub s_36
    have szB := Nat.le_trans szB s_36.size
    have o := o.sub s_36
    have sz_37 := S.size
    have ltb_6_37 := hb_6.lt
    have ltb_8_37 := hb_8.lt
    have ltb_12_37 := hb_12.lt
    have ltb_36_37 := hb_36.lt
    refine RL.append2 (base := E) (rows := (freeB size i).map fun x => [i6 x]) (news := [_]) sl24 ze3 rfl rfl rfl rfl (.inl o) (Has.slOne hb_36) rfl (by intro r hr; rw [List.mem_singleton] at hr; subst hr; rfl) rfl (by (try simp only [List.length_map, List.length_nil, List.length_append, List.length_cons]); omega) (by (try simp only [List.length_map, List.length_nil, List.length_append, List.length_cons]); omega) (by omega) rfl rfl (fun v_37 w_37 hc_37 ho_37 ag_37 ob_37 => ?_)
    have o37 := ho_37 (.inl (by simp))
    rw [show _ ++ [_] = ((freeB size i ++ [(size : Int) - 1 - (i : Int)]).map fun x => [i6 x]) from by rw [List.map_append]; rfl] at o37
    have d_o37_b_6 := obNe ob_37 d6 hb_6.lt
    have d_o37_b_8 := obNe ob_37 d8 hb_8.lt
    have d_o37_b_12 := obNe ob_37 d12 hb_12.lt
    have S := S.agrN ag_37 (fun k e => Nat.le_trans (by omega) e.2)
    have hb_6 := hb_6.step ag_37 (fun e => d6 _ e.1 rfl)
    have hb_8 := hb_8.step ag_37 (fun e => d8 _ e.1 rfl)
    have hb_12 := hb_12.step ag_37 (fun e => d12 _ e.1 rfl)
    have szB := Nat.le_trans szB ag_37.size
    obtain ⟨a_37, c_37, rfl, k_37⟩ := o37.form
    refine RL.ev (.field0 fo26_1 rfl) rfl rfl ?_
    refine RL.store sh24 rfl rfl rfl hb_8 (by exact Nat.le_of_ble_eq_true rfl) (by rfl) rfl (fun w8 z8 hb_8 a8 => ?_)
    have S := S.upd a8 ge_8
    have hb_6 := hb_6.upd a8 n_6__8
    have hb_12 := hb_12.upd a8 n_12__8
    have szB := Nat.le_trans szB a8.size
    have o37 := o37.updD a8 d_o37_b_8
    have hb_8 : Has w8 b_8 ([.slice (some ⟨b_12, 0, none⟩) size size, .slice a_37 ((freeB size i ++ [(size : Int) - 1 - (i : Int)]).map fun x => [i6 x]).length c_37]) _ := hb_8
    refine RL.nil (RC.back ?_)
    refine RC.region rfl ?_
    refine RL.ev (.move rfl) rfl rfl ?_
    refine RL.ev (.as (.bin rfl rfl rfl) (wi64 (y := (size : Int) - 1 - ((i + 1 : Nat) : Int)) (by omega) (by omega))) rfl rfl ?_
    refine RL.ev (.assign rfl) rfl rfl ?_
    exact RL.nil (fun a ka => ⟨(i + 1, a_37, _, c_37), ⟨by omega, by rw [freeB_succ]; exact o37, hb_6, hb_8, hb_12, szB, S⟩, by omega, ka.keep (keep_of (by repeat (first | exact trivial | refine And.intro rfl ?_)))⟩)
  ·
    obtain rfl : i = size - (l.length + m.length) := (by omega)
    have d6 : ∀ k, ob (.slice a_u ((freeB size (size - (l.length + m.length))).map fun x => [i6 x]).length c_u) = some k → k ≠ b_6 := fun k hk e => absurd (o.ge k hk).1 (by omega)
    have d8 : ∀ k, ob (.slice a_u ((freeB size (size - (l.length + m.length))).map fun x => [i6 x]).length c_u) = some k → k ≠ b_8 := fun k hk e => absurd (o.ge k hk).1 (by omega)
    have d12 : ∀ k, ob (.slice a_u ((freeB size (size - (l.length + m.length))).map fun x => [i6 x]).length c_u) = some k → k ≠ b_12 := fun k hk e => absurd (o.ge k hk).1 (by omega)
    refine RC.exit rfl (RC.back ?_)
    refine RC.seq ?_
    refine RC.region rfl ?_
    refine RL.ev (.loadR ([.slice (some ⟨b_12, 0, none⟩) size size, .slice a_u ((freeB size (size - (l.length + m.length))).map fun x => [i6 x]).length c_u]) sh26 rfl hb_8.row rfl) rfl rfl ?_
    refine RL.ev (.move rfl) rfl rfl ?_
    refine RL.store sh26 rfl rfl rfl hb_6 (by exact Nat.le_of_ble_eq_true rfl) (by rfl) rfl (fun w9 z9 hb_6 a9 => ?_)
    have S := S.upd a9 ge_6
    have hb_8 := hb_8.upd a9 n_6__8.symm
    have hb_12 := hb_12.upd a9 n_6__12.symm
    have szB := Nat.le_trans szB a9.size
    have o := o.updD a9 d6
    have hb_6 : Has w9 b_6 ([.slice (some ⟨b_12, 0, none⟩) size size, .slice a_u ((freeB size (size - (l.length + m.length))).map fun x => [i6 x]).length c_u]) _ := hb_6.now (by kernel_rfl)
    refine RL.ev (.assign rfl) rfl rfl ?_
    refine RL.nil (RC.back ?_)
    refine RC.done (rs := [.cell 6 26, .tmp 7]) (vs := [_, _]) rfl rfl ⟨⟨_, rfl, .inr ⟨[.slice (some ⟨b_12, 0, none⟩) size size, .slice a_u ((freeB size (size - (l.length + m.length))).map fun x => [i6 x]).length c_u], sh26, hb_6.row, rfl⟩⟩, rfl, trivial⟩ ?_
    -- end 1
    have kc := o.form
    obtain ⟨_, c', e, hk⟩ := kc
    cases e
    rw [List.length_map] at hk
    refine ⟨some ⟨b_12, 0, none⟩, a_u, size, c_u, ?_, by omega, hk, fun N hN u hu => ⟨?_, (o.imm (N := N) (fun k hk => by have := hN k hk; omega)) u hu, hB.nok hl64 hm64, ?_⟩, S⟩
    · show tup [Value.agg _, _] = _
      simp only [arV, hBl, List.length_map]
      rfl
    · exact Has.sl0 (hb_12.step hu (fun e => by have := hN _ e; omega)) (fun r hr => by obtain ⟨z, _, rfl⟩ := List.mem_map.1 hr; rfl)
    · intro x hx
      have := freeB_mem.1 hx
      unfold I64
      omega
end Go.Proofs.Ytefakjhfcgjhgaa
