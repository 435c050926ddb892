/-
  The statement DequeKeeps.
-/
import Derived.Test.YtefakjhfcgjhgaaDequeMakes
set_option linter.unusedVariables false
set_option linter.unusedSimpArgs false
namespace Go.Proofs.Ytefakjhfcgjhgaa
open Go Go.XL

structure ActD where
  pop : Bool
  back : Bool
  v : Int
def ActD.cells (z : ActD) : List Value := [.bool z.pop, .bool z.back, .int .i64 z.v]
def ActD.ok (z : ActD) : Prop := I64 z.v
theorem fit_actD (r : List Value) (h : fitsR [none, none, some .i64] r) : ∃ x : ActD, r = x.cells ∧ x.ok := by
  obtain ⟨_, _, rfl, h0, h⟩ := fitsR_cons h
  obtain ⟨_, _, rfl, h1, h⟩ := fitsR_cons h
  obtain ⟨_, _, rfl, h2, h⟩ := fitsR_cons h
  obtain rfl := fitsR_nil h
  obtain ⟨b, rfl⟩ := fitR_bool h0
  obtain ⟨c, rfl⟩ := fitR_bool h1
  obtain ⟨a2, rfl, g2⟩ := fitI h2
  exact ⟨⟨b, c, a2⟩, rfl, g2⟩
section
variable {H : Type} {enc : TypeId × Value → H} {W : World} {base : Nat} {sp : Nat → Bool} {held : Bool} {v : Value} {d : DataW H} {ps : List MemPlace} {r : Reach} {b : Nat}
set_option maxRecDepth 100000 in
theorem open_acts11 (hok : Value.okWide Try.prog W r b 60 v) (h : DataW.Trod enc Try.prog W base sp held 60 v d ps) : ∃ (a : Option Addr) (l : List ActD) (c : Nat), v = .slice a l.length c ∧ l.length ≤ c ∧ c ≤ maxLen ∧ Sl W a 3 (l.map ActD.cells) ∧ ∀ x ∈ l, x.ok :=
  open_sl ActD.cells ActD.ok sl60 fk64 rfl fit_actD hok h
end

/-- a version: its root, and its row of values -/
structure RVs where
  r : Int
  a : Option Addr
  c : Nat
  l : List Int
def RVs.root (t : RVs) : List Value := [u6 t.r]
def RVs.row (t : RVs) : List Value := [.slice t.a (t.l.map fun x => [i6 x]).length t.c]
def RVs.ok (A : Ar) (t : RVs) : Prop := U64 t.r ∧ (∃ P, IsR A t.r t.l P) ∧ t.l.length ≤ 200 ∧ t.l.length ≤ t.c
theorem RVs.ok.ext {A B : Ar} {t : RVs} (h : t.ok A) (e : Ext A B) : t.ok B := ⟨h.1, h.2.1.imp fun _ k => k.ext e, h.2.2⟩
/-- what is read: the arena, the row, all older rows -/
def KW (na fa : Option Addr) (A : Ar) (ra : Option Addr) (L : List Int) (T : List RVs) (u : World) : Prop := ArR u na fa A ∧ Sl u ra 1 (L.map fun x => [i6 x]) ∧ ∀ t ∈ T, Sl u t.a 1 (t.l.map fun x => [i6 x])
structure KSW (b3 : Nat) (w W : World) (M : Nat → Prop) (A : Ar) (na fa : Option Addr) (nc fc : Nat) (r : Int) (ra : Option Addr) (rc : Nat) (L : List Int) (T : List RVs) (ta : Option Addr) (tc : Nat) (va : Option Addr) (vc : Nat) : Prop where
  hb : Has W b3 [.slice na A.nodes.length nc, .slice fa A.free.length fc] 26
  hK : Ft M (KW na fa A ra L T) W
  o7 : Ows w.heap.size W 28 1 (.slice ta (T.map RVs.root).length tc) (T.map RVs.root)
  o6 : Ows w.heap.size W 22 1 (.slice va (T.map RVs.row).length vc) (T.map RVs.row)
  d1 : ∀ k, M k → k ≠ b3
  d2 : ∀ k, ob (.slice ta (T.map RVs.root).length tc) = some k → k ≠ b3
  d3 : ∀ k, ob (.slice va (T.map RVs.row).length vc) = some k → k ≠ b3
  d4 : ∀ k, ob (.slice ta (T.map RVs.root).length tc) = some k → M k → False
  d5 : ∀ k, ob (.slice va (T.map RVs.row).length vc) = some k → M k → False
  d6 : ∀ k, ob (.slice ta (T.map RVs.root).length tc) = some k → ob (.slice va (T.map RVs.row).length vc) = some k → False
  S : Sub w W
  u : U64 r
  ok : AOk A
  isR : ∃ P, IsR A r L P
  nc : A.nodes.length ≤ nc
  fc : A.free.length ≤ fc
  rc : L.length ≤ rc
  old : ∀ t ∈ T, t.ok A
set_option maxHeartbeats 1000000 in
theorem law_DequeKeeps (w : World) (l : List ActD) (pa : Option Addr) (pc : Nat) (hlc : l.length ≤ pc) (hcm : pc ≤ maxLen) (hs : Sl w pa 3 (l.map ActD.cells)) (hli : ∀ x ∈ l, x.ok) (p : Int) (wp : (Lit.int .i64 p).wf = true) :
    FC Try.prog 8 [.slice pa l.length pc, .int .i64 p] w (Val (.bool true) w) := by
  have hll : l.length ≤ 9223372036854775807 := Nat.le_trans hlc (Nat.le_trans hcm (by decide))
  have hp : -9223372036854775808 ≤ p ∧ p ≤ 9223372036854775807 := wfI wp
  refine FC.intro Try.func8 rfl Try.ntmps8 rfl ?_
  have S := Sub.refl w
  refine RC.seq ?_
  refine RC.region rfl ?_
  refine RL.ev (.assign rfl) rfl rfl ?_
  refine RL.nil (RC.back ?_)
  refine RC.seq ?_
  refine RC.region rfl ?_
  refine RL.call rfl ok15 (c_aNew 512 ⟨by decide, by decide⟩ w) rfl rfl ?_
  rintro _ w1 ⟨na0, fa0, nc0, fc0, rfl, hnc0, hfc0, hn00, s2⟩
  have hA := Ft.new hn00 s2
  have S := S.trans s2
  refine RL.ev (.move rfl) rfl rfl ?_
  refine RL.ev (.extract rfl rfl) rfl rfl ?_
  refine RL.ev (.extract rfl rfl) rfl rfl ?_
  refine RL.alloc ze26 rfl rfl (fun b_5 w_5 e_5 z_5 hb_5 s_5 => ?_)
  have ge_5 := S.le e_5
  have d_hA_b_5 := hA.neNew e_5
  have S := S.trans s_5
  have hA := hA.sub s_5
  refine RL.store sh26 rfl rfl rfl hb_5 (by exact Nat.le_of_ble_eq_true rfl) (by rfl) rfl (fun w3 z3 hb_5 a3 => ?_)
  have S := S.upd a3 ge_5
  have hA := hA.updD a3 d_hA_b_5
  have hb_5 : Has w3 b_5 ([.slice na0 (newA 512).nodes.length nc0, .slice fa0 (newA 512).free.length fc0]) _ := hb_5.now (by kernel_rfl)
  refine RL.ev (.assign rfl) rfl rfl ?_
  refine RL.nil (RC.back ?_)
  refine RC.seq ?_
  refine RC.region rfl ?_
  refine RL.ev (.assign rfl) rfl rfl ?_
  refine RL.nil (RC.back ?_)
  refine RC.seq ?_
  refine RC.region rfl ?_
  refine RL.ev (.assign rfl) rfl rfl ?_
  refine RL.nil (RC.back ?_)
  refine RC.seq ?_
  refine RC.region rfl ?_
  refine RL.ev (.assign rfl) rfl rfl ?_
  refine RL.nil (RC.back ?_)
  refine RC.seq ?_
  refine RC.region rfl ?_
  refine RL.buildSlice0 sl22 rfl rfl (fun b_40 w_40 e_40 z_40 hb_40 s_40 => ?_)
  have ge_40 := S.le e_40
  have n_5__40 := hb_5.ne e_40
  have d_hA_b_40 := hA.neNew e_40
  have S := S.trans s_40
  have hA := hA.sub s_40
  have hb_5 := hb_5.sub s_40
  refine RL.ev (.assign rfl) rfl rfl ?_
  refine RL.nil (RC.back ?_)
  refine RC.seq ?_
  refine RC.seq ?_
  refine RC.region rfl ?_
  refine RL.ev (.move rfl) rfl rfl ?_
  refine RL.ev (.len sl60 rfl) rfl rfl ?_
  refine RL.ev (.move rfl) rfl rfl ?_
  refine RL.nil (RC.back ?_)
  refine RC.block ?_
  refine RC.loop (α := Nat × (Ar × Option Addr × Option Addr × Nat × Nat) × Int × (Nat → Prop) × (Option Addr × Nat × List Int) × (Option Addr × Nat) × (Option Addr × Nat) × List RVs) (fun x => [(1, .int .i64 p), (5, .pointer (some ⟨b_5, 0, none⟩)), (6, .int .i64 0), (7, .int .u64 x.2.2.1), (8, .slice x.2.2.2.2.2.1.1 (x.2.2.2.2.2.2.2.map RVs.root).length x.2.2.2.2.2.1.2), (9, .slice x.2.2.2.2.2.2.1.1 (x.2.2.2.2.2.2.2.map RVs.row).length x.2.2.2.2.2.2.1.2), (10, .slice x.2.2.2.2.1.1 (x.2.2.2.2.1.2.2.map fun x => [i6 x]).length x.2.2.2.2.1.2.1), (41, .slice pa l.length pc), (42, .int .i64 (l.length : Int)), (43, .int .i64 (x.1 : Int))]) (fun x w4 => (x.1 ≤ l.length ∧ x.2.2.2.2.1.2.2.length ≤ x.1 ∧ x.2.2.2.2.2.2.2.length ≤ x.1 ∧ x.1 ≤ 14) ∧ KSW b_5 w w4 x.2.2.2.1 x.2.1.1 x.2.1.2.1 x.2.1.2.2.1 x.2.1.2.2.2.1 x.2.1.2.2.2.2 x.2.2.1 x.2.2.2.2.1.1 x.2.2.2.2.1.2.1 x.2.2.2.2.1.2.2 x.2.2.2.2.2.2.2 x.2.2.2.2.2.1.1 x.2.2.2.2.2.1.2 x.2.2.2.2.2.2.1.1 x.2.2.2.2.2.2.1.2) (fun x => l.length - x.1) (0, (newA 512, na0, fa0, nc0, fc0), 0, _, (some ⟨b_40, 0, none⟩, 0, []), (none, 0), (none, 0), []) (keep_of (by repeat (first | exact trivial | refine And.intro rfl ?_))) (⟨⟨Nat.zero_le _, Nat.zero_le _, Nat.zero_le _, Nat.zero_le _⟩, ⟨hb_5, hA.imp fun u h => ⟨h, Sl.nil _ _ _, fun t ht => by cases ht⟩, Ows.nil _ _ _ _, Ows.nil _ _ _ _, d_hA_b_5, fun k hk => obNil hk, fun k hk => obNil hk, fun k hk => obNil hk, fun k hk => obNil hk, fun k hk => obNil hk, S, zu0, newA_ok ⟨by decide, by decide⟩, ⟨_, .nil⟩, hnc0, hfc0, Nat.le_refl _, fun t ht => by cases ht⟩⟩) (fun x w4 hJ => ?_)
  obtain ⟨i, ⟨A, na, fa, nc, fc⟩, r, M, ⟨ra, rc, V⟩, ⟨ta, tc⟩, ⟨va, vc⟩, T⟩ := x; obtain ⟨⟨hi, hLi, hTi, hi14⟩, ⟨hb_5, hK, o7, o6, d1, d2, d3, d4, d5, d6, S, hu, hok, ⟨P, hR⟩, hnc, hfc, hrc, hold⟩⟩ := hJ; simp only [] at hi hLi hTi hi14 hb_5 hK o7 o6 d1 d2 d3 d4 d5 d6 hu hok hR hnc hfc hrc hold; have hV1 := hK.now.2.1
  refine RC.seq ?_
  refine RC.region rfl ?_
  refine RL.ev (.bin rfl rfl rfl) rfl rfl ?_
  refine RL.nil (RC.back ?_)
  refine RC.seq ?_
  refine RC.cond_dec rfl (fun h5 => ?_) (fun h5 => ?_)
  ·
    obtain ⟨⟨pp, bk, vv⟩, hx⟩ := getSome (l := l) (i := i) (by omega)
    have hxv : I64 vv := hli _ (List.mem_of_getElem? hx)
    refine RC.skip (RC.back ?_)
    refine RC.seq ?_
    refine RC.block ?_
    refine RC.seq ?_
    refine RC.region rfl ?_
    refine RL.ev (.move rfl) rfl rfl ?_
    refine RL.ev (.indexS sl60 rfl rfl (by omega) (hs.is (i := 0) (by simp only [List.length_map]; omega))) rfl rfl ?_
    refine RL.ev (.loadR ([.bool pp, .bool bk, .int .i64 vv]) sh64 rfl ((hs.sub S).rowAt (enc := ActD.cells) (i := i) hx) rfl) rfl rfl ?_
    refine RL.alloc ze64 rfl rfl (fun b_12 w_12 e_12 z_12 hb_12 s_12 => ?_)
    have ge_12 := S.le e_12
    have n_5__12 := hb_5.ne e_12
    have d_hK_b_12 := hK.neNew e_12
    have d_o7_b_12 := o7.neNew e_12
    have d_o6_b_12 := o6.neNew e_12
    have S := S.trans s_12
    have hb_5 := hb_5.sub s_12
    have hK := hK.sub s_12
    have o7 := o7.sub s_12
    have o6 := o6.sub s_12
    refine RL.ev (.assign rfl) rfl rfl ?_
    refine RL.store sh64 rfl rfl rfl hb_12 (by exact Nat.le_of_ble_eq_true rfl) (by rfl) rfl (fun w6 z6 hb_12 a6 => ?_)
    have S := S.upd a6 ge_12
    have hb_5 := hb_5.upd a6 n_5__12
    have hK := hK.updD a6 d_hK_b_12
    have o7 := o7.updD a6 d_o7_b_12
    have o6 := o6.updD a6 d_o6_b_12
    have hb_12 : Has w6 b_12 ([.bool pp, .bool bk, .int .i64 vv]) _ := hb_12.now (by kernel_rfl)
    refine RL.nil (RC.back ?_)
    refine RC.seq ?_
    refine RC.seq ?_
    refine RC.region rfl ?_
    refine RL.ev (.move rfl) rfl rfl ?_
    refine RL.ev (.bin rfl rfl rfl) rfl rfl ?_
    refine RL.ev (.move rfl) rfl rfl ?_
    refine RL.split 50 rfl (fun h7 => ?_) (fun h7 => ?_)
    ·
      have h50 := h7
      refine RL.off rfl rfl ?_
      refine RL.off rfl rfl ?_
      refine RL.off rfl rfl ?_
      refine RL.off rfl rfl ?_
      refine RL.ev (.pick_t rfl rfl) rfl rfl ?_
      refine RL.nil (RC.back ?_)
      refine RC.cond_t rfl ?_
      refine RC.exit rfl (RC.back ?_)
      refine RC.seq ?_
      refine RC.seq ?_
      refine RC.region rfl ?_
      refine RL.ev (.field0 fo26_1 rfl) rfl rfl ?_
      refine RL.ev (.load1 sh24 rfl (hb_5.cell rfl)) rfl rfl ?_
      refine RL.ev (.len sl24 rfl) rfl rfl ?_
      refine RL.ev (.bin rfl rfl rfl) rfl rfl ?_
      refine RL.nil (RC.back ?_)
      refine RC.cond_dec rfl (fun h8 => ?_) (fun h8 => ?_)
      ·
        have h173 := h8
        refine RC.seq ?_
        refine RC.region rfl ?_
        refine RL.call rfl ok13 (c_alive11 w6) rfl rfl ?_
        rintro _ w9 ⟨rfl, s10⟩
        have S := S.trans s10
        have hb_5 := hb_5.sub s10
        have hK := hK.sub s10
        have o7 := o7.sub s10
        have o6 := o6.sub s10
        have hb_12 := hb_12.sub s10
        refine RL.ev (.move rfl) rfl rfl ?_
        refine RL.ev (.move rfl) rfl rfl ?_
        refine RL.ev (.as (v' := .bool true) (.bin rfl rfl rfl) (congrArg Value.bool (decide_eq_true (rfl)))) rfl rfl ?_
        refine RL.ev (.pick_t rfl rfl) rfl rfl ?_
        refine RL.ev (.assign rfl) rfl rfl ?_
        refine RL.nil (RC.back ?_)
        refine RC.done (rs := [.tmp 4]) (vs := [_]) rfl rfl ⟨rfl, trivial⟩ ?_
        -- end 1
        exact ⟨rfl, S⟩
      ·
        have h173 : 450 ≤ A.free.length := (by omega)
        have nmp := norm_mod p ((V.length + 1 : Nat) : Int) (by omega)
        obtain ⟨k, hk⟩ := Int.eq_ofNat_of_zero_le (Int.emod_nonneg p (show ((V.length + 1 : Nat) : Int) ≠ 0 by omega))
        have hkn : k < V.length + 1 := (by have := Int.emod_lt_of_pos p (show 0 < ((V.length + 1 : Nat) : Int) by omega); omega)
        obtain ⟨W5, S5, hWK⟩ : ∃ W, Sub W w6 ∧ KW na fa A ra V T W := ⟨_, Sub.refl _, hK.now⟩
        have hG5 := Ft.of_sub fun u s => hWK.1.sub s
        refine RC.skip (RC.back ?_)
        refine RC.seq ?_
        refine RC.region rfl ?_
        refine RL.ev (.move rfl) rfl rfl ?_
        refine RL.ev (.move rfl) rfl rfl ?_
        refine RL.ev (.as (v' := .int .i64 (V.length : Int)) (.len sl22 rfl) (by rw [List.length_map])) rfl rfl ?_
        refine RL.ev (.as (.bin rfl rfl rfl) (wi64 (y := ((V.length + 1 : Nat) : Int)) (by omega) (by omega))) rfl rfl ?_
        refine RL.ev (.rem rfl rfl (by omega)) rfl rfl ?_
        refine RL.ev (.move rfl) rfl rfl ?_
        refine RL.ev (.as (v' := .int .i64 (V.length : Int)) (.len sl22 rfl) (by rw [List.length_map])) rfl rfl ?_
        refine RL.ev (.as (.bin rfl rfl rfl) (wi64 (y := p.tmod ((V.length + 1 : Nat) : Int) + V.length) (by rfl) (by omega))) rfl rfl ?_
        refine RL.ev (.as (.bin rfl rfl rfl) (wi64 (y := p.tmod ((V.length + 1 : Nat) : Int) + ((V.length + 1 : Nat) : Int)) (by omega) (by omega))) rfl rfl ?_
        refine RL.ev (.move rfl) rfl rfl ?_
        refine RL.ev (.as (v' := .int .i64 (V.length : Int)) (.len sl22 rfl) (by rw [List.length_map])) rfl rfl ?_
        refine RL.ev (.as (.bin rfl rfl rfl) (wi64 (y := ((V.length + 1 : Nat) : Int)) (by omega) (by omega))) rfl rfl ?_
        refine RL.ev (.as (v' := .int .i64 (k : Int)) (.rem rfl rfl (by omega)) (by rw [nmp.2.2, hk])) rfl rfl ?_
        refine RL.ev (.assign rfl) rfl rfl ?_
        refine RL.nil (RC.back ?_)
        refine RC.seq ?_
        refine RC.region rfl ?_
        refine RL.ev (.loadR ([.slice na A.nodes.length nc, .slice fa A.free.length fc]) sh26 rfl hb_5.row rfl) rfl rfl ?_
        refine RL.ev (.move rfl) rfl rfl ?_
        refine RL.ev (.move rfl) rfl rfl ?_
        refine RL.call rfl ok19 (c_dcut A na fa nc fc hnc hfc r (k : Int) hu (by unfold I64; omega) _ w6 (hG5.sub S5)) rfl rfl ?_
        rintro _ w11 ⟨s12, na6, fa6, nc6, fc6, B6, r6, r7, e6, M6, rfl, hu6, hu7, hn6, hf6, hF6, _, _, _, hp6⟩
        have S := S.trans s12
        have hb_5 := hb_5.sub s12
        have hb_12 := hb_12.sub s12
        have S5 := S5.trans s12
        obtain ⟨rfl, hE6, hok6, hf6', M6', N6, hR6, hR7, hdj⟩ := cut_good hp6 hok hR (by omega) (by omega) ⟨by omega, by omega⟩
        rw [Int.toNat_natCast] at hR6 hR7
        have hl6 : (V.take k).length + (V.drop k).length = V.length := (by rw [List.length_take, List.length_drop]; omega)
        obtain ⟨W6, S6, hA6⟩ : ∃ W, Sub W w11 ∧ ArR W na6 fa6 B6 := ⟨_, Sub.refl _, hF6.now⟩
        have hG6 := Ft.of_sub fun u s => hA6.sub s
        refine RL.ev (.move rfl) rfl rfl ?_
        refine RL.ev (.extract rfl rfl) rfl rfl ?_
        refine RL.ev (.extract rfl rfl) rfl rfl ?_
        refine RL.ev (.extract rfl rfl) rfl rfl ?_
        refine RL.ev (.extract rfl rfl) rfl rfl ?_
        refine RL.alloc ze26 rfl rfl (fun b_27 w_27 e_27 z_27 hb_27 s_27 => ?_)
        have ge_27 := S.le e_27
        have n_5__27 := hb_5.ne e_27
        have n_12__27 := hb_12.ne e_27
        have S := S.trans s_27
        have hb_5 := hb_5.sub s_27
        have hb_12 := hb_12.sub s_27
        have geS5_27 := S5.le e_27
        have S5 := S5.trans s_27
        have geS6_27 := S6.le e_27
        have S6 := S6.trans s_27
        refine RL.store sh26 rfl rfl rfl hb_27 (by exact Nat.le_of_ble_eq_true rfl) (by rfl) rfl (fun w13 z13 hb_27 a13 => ?_)
        have S := S.upd a13 ge_27
        have hb_5 := hb_5.upd a13 n_5__27
        have hb_12 := hb_12.upd a13 n_12__27
        have S5 := S5.upd a13 geS5_27
        have S6 := S6.upd a13 geS6_27
        have hb_27 : Has w13 b_27 ([.slice na6 B6.nodes.length nc6, .slice fa6 B6.free.length fc6]) _ := hb_27.now (by kernel_rfl)
        refine RL.ev (.assign rfl) rfl rfl ?_
        refine RL.ev (.assign rfl) rfl rfl ?_
        refine RL.ev (.assign rfl) rfl rfl ?_
        refine RL.nil (RC.back ?_)
        refine RC.seq ?_
        refine RC.region rfl ?_
        refine RL.ev (.loadR ([.slice na6 B6.nodes.length nc6, .slice fa6 B6.free.length fc6]) sh26 rfl hb_27.row rfl) rfl rfl ?_
        refine RL.ev (.move rfl) rfl rfl ?_
        refine RL.ev (.move rfl) rfl rfl ?_
        refine RL.call rfl ok17 (c_dcon B6 na6 fa6 nc6 fc6 hn6 hf6 r6 r7 hu6 hu7 _ w13 (hG6.sub S6)) rfl rfl ?_
        rintro _ w14 ⟨s15, na8, fa8, nc8, fc8, B8, r8, e8, M8, rfl, hu8, hn8, hf8, hF8, _, hp8⟩
        have S := S.trans s15
        have hb_5 := hb_5.sub s15
        have hb_12 := hb_12.sub s15
        have S5 := S5.trans s15
        have S6 := S6.trans s15
        have hb_27 := hb_27.sub s15
        obtain ⟨rfl, hE8, hok8, _, M8', hR8⟩ := con_good hp8 hok6 hR6 hR7 hdj (by omega) (by omega)
        rw [List.take_append_drop] at hR8
        have hm8 := hok8.most
        obtain ⟨W8, S8, hA8⟩ : ∃ W, Sub W w14 ∧ ArR W na8 fa8 B8 := ⟨_, Sub.refl _, hF8.now⟩
        refine RL.ev (.move rfl) rfl rfl ?_
        refine RL.ev (.extract rfl rfl) rfl rfl ?_
        refine RL.ev (.extract rfl rfl) rfl rfl ?_
        refine RL.ev (.extract rfl rfl) rfl rfl ?_
        refine RL.alloc ze26 rfl rfl (fun b_31 w_31 e_31 z_31 hb_31 s_31 => ?_)
        have ge_31 := S.le e_31
        have n_5__31 := hb_5.ne e_31
        have n_12__31 := hb_12.ne e_31
        have n_27__31 := hb_27.ne e_31
        have S := S.trans s_31
        have hb_5 := hb_5.sub s_31
        have hb_12 := hb_12.sub s_31
        have geS5_31 := S5.le e_31
        have S5 := S5.trans s_31
        have geS6_31 := S6.le e_31
        have S6 := S6.trans s_31
        have hb_27 := hb_27.sub s_31
        have geS8_31 := S8.le e_31
        have S8 := S8.trans s_31
        refine RL.store sh26 rfl rfl rfl hb_31 (by exact Nat.le_of_ble_eq_true rfl) (by rfl) rfl (fun w16 z16 hb_31 a16 => ?_)
        have S := S.upd a16 ge_31
        have hb_5 := hb_5.upd a16 n_5__31
        have hb_12 := hb_12.upd a16 n_12__31
        have S5 := S5.upd a16 geS5_31
        have S6 := S6.upd a16 geS6_31
        have hb_27 := hb_27.upd a16 n_27__31
        have S8 := S8.upd a16 geS8_31
        have hb_31 : Has w16 b_31 ([.slice na8 B8.nodes.length nc8, .slice fa8 B8.free.length fc8]) _ := hb_31.now (by kernel_rfl)
        refine RL.ev (.assign rfl) rfl rfl ?_
        refine RL.ev (.assign rfl) rfl rfl ?_
        refine RL.nil (RC.back ?_)
        refine RC.seq ?_
        refine RC.region rfl ?_
        refine RL.ev (.loadR ([.slice na8 B8.nodes.length nc8, .slice fa8 B8.free.length fc8]) sh26 rfl hb_31.row rfl) rfl rfl ?_
        refine RL.ev (.move rfl) rfl rfl ?_
        refine RL.call rfl ok22 (c_row11 B8 na8 fa8 nc8 fc8 (by omega) r8 hu8 w16 (hA8.sub S8)) rfl rfl ?_
        rintro _ w17 ⟨s18, a9, c9, V9, rfl, hs9, _, hl9, hV9⟩
        have S := S.trans s18
        have hb_5 := hb_5.sub s18
        have hb_12 := hb_12.sub s18
        have S5 := S5.trans s18
        have S6 := S6.trans s18
        have hb_27 := hb_27.sub s18
        have S8 := S8.trans s18
        have hb_31 := hb_31.sub s18
        have htR := row_of hok8 hR8 (by omega)
        obtain hV9 := hV9 _ _ htR hR8
        obtain ⟨W9, S9, hs9⟩ : ∃ W, Sub W w17 ∧ Sl W a9 1 (V9.map fun x => [i6 x]) := ⟨_, Sub.refl _, hs9⟩
        refine RL.ev (.move rfl) rfl rfl ?_
        refine RL.ev (.extract rfl rfl) rfl rfl ?_
        refine RL.ev (.as (v' := .bool true) (.extract rfl rfl) (by rw [isRowB_yes htR]; rfl)) rfl rfl ?_
        refine RL.ev (.assign rfl) rfl rfl ?_
        refine RL.ev (.assign rfl) rfl rfl ?_
        refine RL.nil (RC.back ?_)
        refine RC.seq ?_
        refine RC.region rfl ?_
        refine RL.call rfl ok13 (c_alive11 w17) rfl rfl ?_
        rintro _ w19 ⟨rfl, s20⟩
        have S := S.trans s20
        have hb_5 := hb_5.sub s20
        have hb_12 := hb_12.sub s20
        have S5 := S5.trans s20
        have S6 := S6.trans s20
        have hb_27 := hb_27.sub s20
        have S8 := S8.trans s20
        have hb_31 := hb_31.sub s20
        have S9 := S9.trans s20
        refine RL.ev (.move rfl) rfl rfl ?_
        refine RL.ev (.move rfl) rfl rfl ?_
        refine RL.ev (.as (v' := .bool true) (.bin rfl rfl rfl) (congrArg Value.bool (decide_eq_true (rfl)))) rfl rfl ?_
        refine RL.ev (.pick_t rfl rfl) rfl rfl ?_
        refine RL.ev (.move rfl) rfl rfl ?_
        refine RL.ev (.move rfl) rfl rfl ?_
        refine RL.ev (.as (v' := .bool true) (.bin rfl rfl rfl) (congrArg Value.bool (decide_eq_true (rfl)))) rfl rfl ?_
        refine RL.ev (.pick_t rfl rfl) rfl rfl ?_
        refine RL.ev (.move rfl) rfl rfl ?_
        refine RL.ev (.move rfl) rfl rfl ?_
        refine RL.ev (.as (v' := .bool true) (.bin rfl rfl rfl) (congrArg Value.bool (decide_eq_true (rfl)))) rfl rfl ?_
        refine RL.ev (.pick_t rfl rfl) rfl rfl ?_
        refine RL.ev (.move rfl) rfl rfl ?_
        refine RL.ev (.move rfl) rfl rfl ?_
        refine RL.ev (.pick_t rfl rfl) rfl rfl ?_
        refine RL.ev (.move rfl) rfl rfl ?_
        refine RL.ev (.move rfl) rfl rfl ?_
        refine RL.ev (.move rfl) rfl rfl ?_
        refine RL.call rfl ok14 (c_same11y V9 V hV9 a9 ra c9 rc _ _ (List.length_map _) (List.length_map _) w19 (hs9.sub S9) (hWK.2.1.sub S5) (by omega)) rfl rfl ?_
        rintro _ w21 ⟨rfl, s22⟩
        have S := S.trans s22
        have hb_5 := hb_5.sub s22
        have hb_12 := hb_12.sub s22
        have S5 := S5.trans s22
        have S6 := S6.trans s22
        have hb_27 := hb_27.sub s22
        have S8 := S8.trans s22
        have hb_31 := hb_31.sub s22
        have S9 := S9.trans s22
        refine RL.ev (.pick_t rfl rfl) rfl rfl ?_
        refine RL.ev (.assign rfl) rfl rfl ?_
        refine RL.nil (RC.back ?_)
        refine RC.done (rs := [.tmp 4]) (vs := [_]) rfl rfl ⟨rfl, trivial⟩ ?_
        -- end 2
        exact ⟨rfl, S⟩
    ·
      have h50 : i < 14 := (by omega)
      refine RL.ev (.field0 fo26_1 rfl) rfl rfl ?_
      refine RL.ev (.load1 sh24 rfl (hb_5.cell rfl)) rfl rfl ?_
      refine RL.ev (.len sl24 rfl) rfl rfl ?_
      refine RL.ev (.bin rfl rfl rfl) rfl rfl ?_
      refine RL.ev (.pick_f rfl rfl) rfl rfl ?_
      refine RL.nil (RC.back ?_)
      refine RC.cond_dec rfl (fun h23 => ?_) (fun h23 => ?_)
      ·
        have h55 := h23
        refine RC.exit rfl (RC.back ?_)
        refine RC.seq ?_
        refine RC.seq ?_
        refine RC.region rfl ?_
        refine RL.ev (.field0 fo26_1 rfl) rfl rfl ?_
        refine RL.ev (.load1 sh24 rfl (hb_5.cell rfl)) rfl rfl ?_
        refine RL.ev (.len sl24 rfl) rfl rfl ?_
        refine RL.ev (.bin rfl rfl rfl) rfl rfl ?_
        refine RL.nil (RC.back ?_)
        refine RC.cond_dec rfl (fun h24 => ?_) (fun h24 => ?_)
        ·
          have h173 := h24
          refine RC.seq ?_
          refine RC.region rfl ?_
          refine RL.call rfl ok13 (c_alive11 w6) rfl rfl ?_
          rintro _ w25 ⟨rfl, s26⟩
          have S := S.trans s26
          have hb_5 := hb_5.sub s26
          have hK := hK.sub s26
          have o7 := o7.sub s26
          have o6 := o6.sub s26
          have hb_12 := hb_12.sub s26
          refine RL.ev (.move rfl) rfl rfl ?_
          refine RL.ev (.move rfl) rfl rfl ?_
          refine RL.ev (.as (v' := .bool true) (.bin rfl rfl rfl) (congrArg Value.bool (decide_eq_true (rfl)))) rfl rfl ?_
          refine RL.ev (.pick_t rfl rfl) rfl rfl ?_
          refine RL.ev (.assign rfl) rfl rfl ?_
          refine RL.nil (RC.back ?_)
          refine RC.done (rs := [.tmp 4]) (vs := [_]) rfl rfl ⟨rfl, trivial⟩ ?_
          -- end 3
          exact ⟨rfl, S⟩
        ·
          have h173 : 450 ≤ A.free.length := (by omega)
          have nmp := norm_mod p ((V.length + 1 : Nat) : Int) (by omega)
          obtain ⟨k, hk⟩ := Int.eq_ofNat_of_zero_le (Int.emod_nonneg p (show ((V.length + 1 : Nat) : Int) ≠ 0 by omega))
          have hkn : k < V.length + 1 := (by have := Int.emod_lt_of_pos p (show 0 < ((V.length + 1 : Nat) : Int) by omega); omega)
          obtain ⟨W5, S5, hWK⟩ : ∃ W, Sub W w6 ∧ KW na fa A ra V T W := ⟨_, Sub.refl _, hK.now⟩
          have hG5 := Ft.of_sub fun u s => hWK.1.sub s
          refine RC.skip (RC.back ?_)
          refine RC.seq ?_
          refine RC.region rfl ?_
          refine RL.ev (.move rfl) rfl rfl ?_
          refine RL.ev (.move rfl) rfl rfl ?_
          refine RL.ev (.as (v' := .int .i64 (V.length : Int)) (.len sl22 rfl) (by rw [List.length_map])) rfl rfl ?_
          refine RL.ev (.as (.bin rfl rfl rfl) (wi64 (y := ((V.length + 1 : Nat) : Int)) (by omega) (by omega))) rfl rfl ?_
          refine RL.ev (.rem rfl rfl (by omega)) rfl rfl ?_
          refine RL.ev (.move rfl) rfl rfl ?_
          refine RL.ev (.as (v' := .int .i64 (V.length : Int)) (.len sl22 rfl) (by rw [List.length_map])) rfl rfl ?_
          refine RL.ev (.as (.bin rfl rfl rfl) (wi64 (y := p.tmod ((V.length + 1 : Nat) : Int) + V.length) (by rfl) (by omega))) rfl rfl ?_
          refine RL.ev (.as (.bin rfl rfl rfl) (wi64 (y := p.tmod ((V.length + 1 : Nat) : Int) + ((V.length + 1 : Nat) : Int)) (by omega) (by omega))) rfl rfl ?_
          refine RL.ev (.move rfl) rfl rfl ?_
          refine RL.ev (.as (v' := .int .i64 (V.length : Int)) (.len sl22 rfl) (by rw [List.length_map])) rfl rfl ?_
          refine RL.ev (.as (.bin rfl rfl rfl) (wi64 (y := ((V.length + 1 : Nat) : Int)) (by omega) (by omega))) rfl rfl ?_
          refine RL.ev (.as (v' := .int .i64 (k : Int)) (.rem rfl rfl (by omega)) (by rw [nmp.2.2, hk])) rfl rfl ?_
          refine RL.ev (.assign rfl) rfl rfl ?_
          refine RL.nil (RC.back ?_)
          refine RC.seq ?_
          refine RC.region rfl ?_
          refine RL.ev (.loadR ([.slice na A.nodes.length nc, .slice fa A.free.length fc]) sh26 rfl hb_5.row rfl) rfl rfl ?_
          refine RL.ev (.move rfl) rfl rfl ?_
          refine RL.ev (.move rfl) rfl rfl ?_
          refine RL.call rfl ok19 (c_dcut A na fa nc fc hnc hfc r (k : Int) hu (by unfold I64; omega) _ w6 (hG5.sub S5)) rfl rfl ?_
          rintro _ w27 ⟨s28, na6, fa6, nc6, fc6, B6, r6, r7, e6, M6, rfl, hu6, hu7, hn6, hf6, hF6, _, _, _, hp6⟩
          have S := S.trans s28
          have hb_5 := hb_5.sub s28
          have hb_12 := hb_12.sub s28
          have S5 := S5.trans s28
          obtain ⟨rfl, hE6, hok6, hf6', M6', N6, hR6, hR7, hdj⟩ := cut_good hp6 hok hR (by omega) (by omega) ⟨by omega, by omega⟩
          rw [Int.toNat_natCast] at hR6 hR7
          have hl6 : (V.take k).length + (V.drop k).length = V.length := (by rw [List.length_take, List.length_drop]; omega)
          obtain ⟨W6, S6, hA6⟩ : ∃ W, Sub W w27 ∧ ArR W na6 fa6 B6 := ⟨_, Sub.refl _, hF6.now⟩
          have hG6 := Ft.of_sub fun u s => hA6.sub s
          refine RL.ev (.move rfl) rfl rfl ?_
          refine RL.ev (.extract rfl rfl) rfl rfl ?_
          refine RL.ev (.extract rfl rfl) rfl rfl ?_
          refine RL.ev (.extract rfl rfl) rfl rfl ?_
          refine RL.ev (.extract rfl rfl) rfl rfl ?_
          refine RL.alloc ze26 rfl rfl (fun b_27 w_27 e_27 z_27 hb_27 s_27 => ?_)
          have ge_27 := S.le e_27
          have n_5__27 := hb_5.ne e_27
          have n_12__27 := hb_12.ne e_27
          have S := S.trans s_27
          have hb_5 := hb_5.sub s_27
          have hb_12 := hb_12.sub s_27
          have geS5_27 := S5.le e_27
          have S5 := S5.trans s_27
          have geS6_27 := S6.le e_27
          have S6 := S6.trans s_27
          refine RL.store sh26 rfl rfl rfl hb_27 (by exact Nat.le_of_ble_eq_true rfl) (by rfl) rfl (fun w29 z29 hb_27 a29 => ?_)
          have S := S.upd a29 ge_27
          have hb_5 := hb_5.upd a29 n_5__27
          have hb_12 := hb_12.upd a29 n_12__27
          have S5 := S5.upd a29 geS5_27
          have S6 := S6.upd a29 geS6_27
          have hb_27 : Has w29 b_27 ([.slice na6 B6.nodes.length nc6, .slice fa6 B6.free.length fc6]) _ := hb_27.now (by kernel_rfl)
          refine RL.ev (.assign rfl) rfl rfl ?_
          refine RL.ev (.assign rfl) rfl rfl ?_
          refine RL.ev (.assign rfl) rfl rfl ?_
          refine RL.nil (RC.back ?_)
          refine RC.seq ?_
          refine RC.region rfl ?_
          refine RL.ev (.loadR ([.slice na6 B6.nodes.length nc6, .slice fa6 B6.free.length fc6]) sh26 rfl hb_27.row rfl) rfl rfl ?_
          refine RL.ev (.move rfl) rfl rfl ?_
          refine RL.ev (.move rfl) rfl rfl ?_
          refine RL.call rfl ok17 (c_dcon B6 na6 fa6 nc6 fc6 hn6 hf6 r6 r7 hu6 hu7 _ w29 (hG6.sub S6)) rfl rfl ?_
          rintro _ w30 ⟨s31, na8, fa8, nc8, fc8, B8, r8, e8, M8, rfl, hu8, hn8, hf8, hF8, _, hp8⟩
          have S := S.trans s31
          have hb_5 := hb_5.sub s31
          have hb_12 := hb_12.sub s31
          have S5 := S5.trans s31
          have S6 := S6.trans s31
          have hb_27 := hb_27.sub s31
          obtain ⟨rfl, hE8, hok8, _, M8', hR8⟩ := con_good hp8 hok6 hR6 hR7 hdj (by omega) (by omega)
          rw [List.take_append_drop] at hR8
          have hm8 := hok8.most
          obtain ⟨W8, S8, hA8⟩ : ∃ W, Sub W w30 ∧ ArR W na8 fa8 B8 := ⟨_, Sub.refl _, hF8.now⟩
          refine RL.ev (.move rfl) rfl rfl ?_
          refine RL.ev (.extract rfl rfl) rfl rfl ?_
          refine RL.ev (.extract rfl rfl) rfl rfl ?_
          refine RL.ev (.extract rfl rfl) rfl rfl ?_
          refine RL.alloc ze26 rfl rfl (fun b_31 w_31 e_31 z_31 hb_31 s_31 => ?_)
          have ge_31 := S.le e_31
          have n_5__31 := hb_5.ne e_31
          have n_12__31 := hb_12.ne e_31
          have n_27__31 := hb_27.ne e_31
          have S := S.trans s_31
          have hb_5 := hb_5.sub s_31
          have hb_12 := hb_12.sub s_31
          have geS5_31 := S5.le e_31
          have S5 := S5.trans s_31
          have geS6_31 := S6.le e_31
          have S6 := S6.trans s_31
          have hb_27 := hb_27.sub s_31
          have geS8_31 := S8.le e_31
          have S8 := S8.trans s_31
          refine RL.store sh26 rfl rfl rfl hb_31 (by exact Nat.le_of_ble_eq_true rfl) (by rfl) rfl (fun w32 z32 hb_31 a32 => ?_)
          have S := S.upd a32 ge_31
          have hb_5 := hb_5.upd a32 n_5__31
          have hb_12 := hb_12.upd a32 n_12__31
          have S5 := S5.upd a32 geS5_31
          have S6 := S6.upd a32 geS6_31
          have hb_27 := hb_27.upd a32 n_27__31
          have S8 := S8.upd a32 geS8_31
          have hb_31 : Has w32 b_31 ([.slice na8 B8.nodes.length nc8, .slice fa8 B8.free.length fc8]) _ := hb_31.now (by kernel_rfl)
          refine RL.ev (.assign rfl) rfl rfl ?_
          refine RL.ev (.assign rfl) rfl rfl ?_
          refine RL.nil (RC.back ?_)
          refine RC.seq ?_
          refine RC.region rfl ?_
          refine RL.ev (.loadR ([.slice na8 B8.nodes.length nc8, .slice fa8 B8.free.length fc8]) sh26 rfl hb_31.row rfl) rfl rfl ?_
          refine RL.ev (.move rfl) rfl rfl ?_
          refine RL.call rfl ok22 (c_row11 B8 na8 fa8 nc8 fc8 (by omega) r8 hu8 w32 (hA8.sub S8)) rfl rfl ?_
          rintro _ w33 ⟨s34, a9, c9, V9, rfl, hs9, _, hl9, hV9⟩
          have S := S.trans s34
          have hb_5 := hb_5.sub s34
          have hb_12 := hb_12.sub s34
          have S5 := S5.trans s34
          have S6 := S6.trans s34
          have hb_27 := hb_27.sub s34
          have S8 := S8.trans s34
          have hb_31 := hb_31.sub s34
          have htR := row_of hok8 hR8 (by omega)
          obtain hV9 := hV9 _ _ htR hR8
          obtain ⟨W9, S9, hs9⟩ : ∃ W, Sub W w33 ∧ Sl W a9 1 (V9.map fun x => [i6 x]) := ⟨_, Sub.refl _, hs9⟩
          refine RL.ev (.move rfl) rfl rfl ?_
          refine RL.ev (.extract rfl rfl) rfl rfl ?_
          refine RL.ev (.as (v' := .bool true) (.extract rfl rfl) (by rw [isRowB_yes htR]; rfl)) rfl rfl ?_
          refine RL.ev (.assign rfl) rfl rfl ?_
          refine RL.ev (.assign rfl) rfl rfl ?_
          refine RL.nil (RC.back ?_)
          refine RC.seq ?_
          refine RC.region rfl ?_
          refine RL.call rfl ok13 (c_alive11 w33) rfl rfl ?_
          rintro _ w35 ⟨rfl, s36⟩
          have S := S.trans s36
          have hb_5 := hb_5.sub s36
          have hb_12 := hb_12.sub s36
          have S5 := S5.trans s36
          have S6 := S6.trans s36
          have hb_27 := hb_27.sub s36
          have S8 := S8.trans s36
          have hb_31 := hb_31.sub s36
          have S9 := S9.trans s36
          refine RL.ev (.move rfl) rfl rfl ?_
          refine RL.ev (.move rfl) rfl rfl ?_
          refine RL.ev (.as (v' := .bool true) (.bin rfl rfl rfl) (congrArg Value.bool (decide_eq_true (rfl)))) rfl rfl ?_
          refine RL.ev (.pick_t rfl rfl) rfl rfl ?_
          refine RL.ev (.move rfl) rfl rfl ?_
          refine RL.ev (.move rfl) rfl rfl ?_
          refine RL.ev (.as (v' := .bool true) (.bin rfl rfl rfl) (congrArg Value.bool (decide_eq_true (rfl)))) rfl rfl ?_
          refine RL.ev (.pick_t rfl rfl) rfl rfl ?_
          refine RL.ev (.move rfl) rfl rfl ?_
          refine RL.ev (.move rfl) rfl rfl ?_
          refine RL.ev (.as (v' := .bool true) (.bin rfl rfl rfl) (congrArg Value.bool (decide_eq_true (rfl)))) rfl rfl ?_
          refine RL.ev (.pick_t rfl rfl) rfl rfl ?_
          refine RL.ev (.move rfl) rfl rfl ?_
          refine RL.ev (.move rfl) rfl rfl ?_
          refine RL.ev (.pick_t rfl rfl) rfl rfl ?_
          refine RL.ev (.move rfl) rfl rfl ?_
          refine RL.ev (.move rfl) rfl rfl ?_
          refine RL.ev (.move rfl) rfl rfl ?_
          refine RL.call rfl ok14 (c_same11y V9 V hV9 a9 ra c9 rc _ _ (List.length_map _) (List.length_map _) w35 (hs9.sub S9) (hWK.2.1.sub S5) (by omega)) rfl rfl ?_
          rintro _ w37 ⟨rfl, s38⟩
          have S := S.trans s38
          have hb_5 := hb_5.sub s38
          have hb_12 := hb_12.sub s38
          have S5 := S5.trans s38
          have S6 := S6.trans s38
          have hb_27 := hb_27.sub s38
          have S8 := S8.trans s38
          have hb_31 := hb_31.sub s38
          have S9 := S9.trans s38
          refine RL.ev (.pick_t rfl rfl) rfl rfl ?_
          refine RL.ev (.assign rfl) rfl rfl ?_
          refine RL.nil (RC.back ?_)
          refine RC.done (rs := [.tmp 4]) (vs := [_]) rfl rfl ⟨rfl, trivial⟩ ?_
          -- end 4
          exact ⟨rfl, S⟩
      ·
        have h55 : 401 ≤ A.free.length := (by omega)
        refine RC.skip (RC.back ?_)
        refine RC.cutx (α := (Ar × Option Addr × Option Addr × Nat × Nat) × Int × (Nat → Prop) × (Option Addr × Nat × List Int)) (fun y_ => [(1, .int .i64 p), (5, .pointer (some ⟨b_5, 0, none⟩)), (6, .int .i64 0), (7, .int .u64 y_.2.1), (8, .slice ta (T.map RVs.root).length tc), (9, .slice va (T.map RVs.row).length vc), (10, .slice y_.2.2.2.1 (y_.2.2.2.2.2.map fun x => [i6 x]).length y_.2.2.2.2.1), (41, .slice pa l.length pc), (42, .int .i64 (l.length : Int)), (43, .int .i64 (i : Int))]) (fun y_ w39 => y_.2.2.2.2.2.length ≤ i + 1 ∧ KSW b_5 w w39 y_.2.2.1 y_.1.1 y_.1.2.1 y_.1.2.2.1 y_.1.2.2.2.1 y_.1.2.2.2.2 y_.2.1 y_.2.2.2.1 y_.2.2.2.2.1 y_.2.2.2.2.2 T ta tc va vc) ?_ (fun y_ w39 hJ => ?_)
        ·
          refine RC.seq ?_
          refine RC.region rfl ?_
          refine RL.ev (.field0 fo64_0 rfl) rfl rfl ?_
          refine RL.ev (.load1 sh4 rfl (hb_12.cell rfl)) rfl rfl ?_
          refine RL.nil (RC.back ?_)
          refine RC.cond rfl (fun h40 => ?_) (fun h40 => ?_)
          ·
            have hpb := h40
            refine RC.seq ?_
            refine RC.region rfl ?_
            refine RL.ev (.loadR ([.slice na A.nodes.length nc, .slice fa A.free.length fc]) sh26 rfl hb_5.row rfl) rfl rfl ?_
            refine RL.ev (.move rfl) rfl rfl ?_
            refine RL.ev (.field0 fo64_1 rfl) rfl rfl ?_
            refine RL.ev (.load1 sh4 rfl (hb_12.cell rfl)) rfl rfl ?_
            refine RL.call rfl ok16 (c_dpop A na fa nc fc hnc hfc r bk hu M w6 (hK.imp fun u h => h.1)) rfl rfl ?_
            rintro _ w41 ⟨s42, na', fa', nc', fc', A', r', v', e', M', rfl, hu', _, hnc', hfc', hA', hup, _, _, hpp⟩
            have d_hA'_b_5 := upNe hup d1 hb_5.lt
            have dd_o7_hA' := upDD hup d4 (fun k hk => (o7.ge k hk).2)
            have dd_o6_hA' := upDD hup d5 (fun k hk => (o6.ge k hk).2)
            have d_hA'_b_12 := upNe hup d_hK_b_12 hb_12.lt
            have d_hA'_o7 := upDD hup d4 (fun k hk => (o7.ge k hk).2)
            have d_hA'_o6 := upDD hup d5 (fun k hk => (o6.ge k hk).2)
            have hlt5 := hb_5.lt
            have S := S.trans s42
            have hb_5 := hb_5.sub s42
            have hK := hK.sub s42
            have o7 := o7.sub s42
            have o6 := o6.sub s42
            have hb_12 := hb_12.sub s42
            have hD := pop_good hpp hok hR (by omega) (by omega)
            have hV0 : e' = 3 ↔ (V.length : Int) = 0 := (by rcases hD with h | h; exact ⟨fun _ => by rw [h.1]; rfl, fun _ => h.2⟩; exact ⟨fun e => by omega, fun e => by omega⟩)
            refine RL.ev (.move rfl) rfl rfl ?_
            refine RL.ev (.extract rfl rfl) rfl rfl ?_
            refine RL.ev (.extract rfl rfl) rfl rfl ?_
            refine RL.ev (.extract rfl rfl) rfl rfl ?_
            refine RL.ev (.extract rfl rfl) rfl rfl ?_
            refine RL.alloc ze26 rfl rfl (fun b_13 w_13 e_13 z_13 hb_13 s_13 => ?_)
            have ge_13 := S.le e_13
            have n_5__13 := hb_5.ne e_13
            have n_12__13 := hb_12.ne e_13
            have d_hK_b_13 := hK.neNew e_13
            have d_o7_b_13 := o7.neNew e_13
            have d_o6_b_13 := o6.neNew e_13
            have d_hA'_b_13 := hA'.neNew e_13
            have S := S.trans s_13
            have hb_5 := hb_5.sub s_13
            have hK := hK.sub s_13
            have o7 := o7.sub s_13
            have o6 := o6.sub s_13
            have hb_12 := hb_12.sub s_13
            have hA' := hA'.sub s_13
            refine RL.store sh26 rfl rfl rfl hb_13 (by exact Nat.le_of_ble_eq_true rfl) (by rfl) rfl (fun w43 z43 hb_13 a43 => ?_)
            have S := S.upd a43 ge_13
            have hb_5 := hb_5.upd a43 n_5__13
            have hK := hK.updD a43 d_hK_b_13
            have o7 := o7.updD a43 d_o7_b_13
            have o6 := o6.updD a43 d_o6_b_13
            have hb_12 := hb_12.upd a43 n_12__13
            have hA' := hA'.updD a43 d_hA'_b_13
            have hb_13 : Has w43 b_13 ([.slice na' A'.nodes.length nc', .slice fa' A'.free.length fc']) _ := hb_13.now (by kernel_rfl)
            refine RL.ev (.assign rfl) rfl rfl ?_
            refine RL.ev (.assign rfl) rfl rfl ?_
            refine RL.ev (.assign rfl) rfl rfl ?_
            refine RL.nil (RC.back ?_)
            refine RC.seq ?_
            refine RC.seq ?_
            refine RC.region rfl ?_
            refine RL.ev (.move rfl) rfl rfl ?_
            refine RL.ev (.bin rfl rfl rfl) rfl rfl ?_
            refine RL.ev (.move rfl) rfl rfl ?_
            refine RL.ev (.as (v' := .int .i64 (V.length : Int)) (.len sl22 rfl) (by rw [List.length_map])) rfl rfl ?_
            refine RL.ev (.bin rfl rfl rfl) rfl rfl ?_
            refine RL.ev (.as (v' := .bool false) (.neB bo4 rfl rfl) (congrArg Value.bool (bneIff hV0))) rfl rfl ?_
            refine RL.ev (.move rfl) rfl rfl ?_
            refine RL.ev (.move rfl) rfl rfl ?_
            refine RL.ev (.bin rfl rfl rfl) rfl rfl ?_
            refine RL.ev (.move rfl) rfl rfl ?_
            refine RL.split 77 rfl (fun h44 => ?_) (fun h44 => ?_)
            ·
              have h77 := h44
              refine RL.ev (.move rfl) rfl rfl ?_
              refine RL.ev (.as (v' := .bool false) (.bin rfl rfl rfl) (congrArg Value.bool (decide_eq_false (fun h => h (by rcases hD with h | h; exact h.2; exact absurd h.2.1 h77))))) rfl rfl ?_
              refine RL.ev (.pick_t rfl rfl) rfl rfl ?_
              refine RL.ev (.pick_f rfl rfl) rfl rfl ?_
              refine RL.nil (RC.back ?_)
              refine RC.cond_f rfl ?_
              refine RC.skip (RC.back ?_)
              refine RC.seq ?_
              refine RC.seq ?_
              refine RC.region rfl ?_
              refine RL.ev (.move rfl) rfl rfl ?_
              refine RL.ev (.bin rfl rfl rfl) rfl rfl ?_
              refine RL.nil (RC.back ?_)
              refine RC.cond_dec rfl (fun h45 => ?_) (fun h45 => ?_)
              ·
                have h83 := h45
                refine RC.exit rfl (RC.back ?_)
                refine RC.region rfl ?_
                refine RL.ev (.as (.bin rfl rfl rfl) (wi64 (y := ((i + 1 : Nat) : Int)) (by omega) (by omega))) rfl rfl ?_
                refine RL.ev (.move rfl) rfl rfl ?_
                exact RL.nil (fun a ka => ⟨(i + 1, (A, na, fa, nc, fc), r, M, (ra, rc, V), (ta, tc), (va, vc), T), ⟨⟨by omega, by show V.length ≤ _; omega, by show T.length ≤ _; omega, by omega⟩, ⟨hb_5, hK, o7, o6, d1, d2, d3, d4, d5, d6, S, hu, hok, ⟨P, hR⟩, hnc, hfc, hrc, hold⟩⟩, by omega, ka.keep (keep_of (by repeat (first | exact trivial | refine And.intro rfl ?_)))⟩)
              ·
                have he0 : e' = 0 := (by have := h45; omega)
                obtain ⟨hVp, _, hv', hE, hok', hf', P', hR'⟩ := hD.resolve_left (fun h => by omega)
                have gV0 := get_front hVp
                have gV1 := get_back hVp
                have hpol := popL_len V bk
                refine RC.skip (RC.back ?_)
                refine RC.seq ?_
                refine RC.draw rfl mxo (by kernel_rfl) ?_
                refine RQ.ev (.move rfl) rfl rfl ?_
                refine RQ.ev (.indexS sl22 rfl rfl (by simp only [List.length_map]; omega) (hV1.is (i := 0) (by simp only [List.length_map]; omega))) rfl rfl ?_
                refine RQ.ev (.load1 sh2 rfl (hK.now.2.1.one (enc := i6) (i := 0) gV0)) rfl rfl ?_
                refine RQ.ev (.move rfl) rfl rfl ?_
                refine RQ.ev (.as (v' := .slice (if rc = 1 then ra else ra.map (·.add (1 * 1))) ((popL V false).map fun x => [i6 x]).length (rc - 1)) (.sliceLo sl22 rfl rfl (by simp only [List.length_map]; omega)) (by rw [List.length_map, List.length_map, popL_len]; rfl)) rfl rfl ?_
                refine RQ.ev (.assign rfl) rfl rfl ?_
                refine RQ.ev (.assign rfl) rfl rfl ?_
                refine RQ.nil (fun w46 s47 => RC.back ?_)
                have S := S.trans s47
                have hb_5 := hb_5.sub s47
                have hK := hK.sub s47
                have o7 := o7.sub s47
                have o6 := o6.sub s47
                have hb_12 := hb_12.sub s47
                have hA' := hA'.sub s47
                have hb_13 := hb_13.sub s47
                refine RC.seq ?_
                refine RC.seq ?_
                refine RC.region rfl ?_
                refine RL.ev (.move rfl) rfl rfl ?_
                refine RL.ev (.as (v' := .int .i64 (V.length : Int)) (.len sl22 rfl) (by rw [List.length_map])) rfl rfl ?_
                refine RL.ev (.as (.bin rfl rfl rfl) (wi64 (y := ((V.length - 1 : Nat) : Int)) (by omega) (by omega))) rfl rfl ?_
                refine RL.ev (.assign rfl) rfl rfl ?_
                refine RL.nil (RC.back ?_)
                refine RC.seq ?_
                refine RC.region rfl ?_
                refine RL.ev (.field0 fo64_1 rfl) rfl rfl ?_
                refine RL.ev (.load1 sh4 rfl (hb_12.cell rfl)) rfl rfl ?_
                refine RL.nil (RC.back ?_)
                refine RC.cond rfl (fun h48 => ?_) (fun h48 => ?_)
                ·
                  subst h48
                  refine RC.draw rfl mxo (by kernel_rfl) ?_
                  refine RQ.ev (.move rfl) rfl rfl ?_
                  refine RQ.ev (.move rfl) rfl rfl ?_
                  refine RQ.ev (.indexS sl22 rfl rfl (by simp only [List.length_map]; omega) (hV1.is (i := 0) (by simp only [List.length_map]; omega))) rfl rfl ?_
                  refine RQ.ev (.load1 sh2 rfl (hK.now.2.1.one (enc := i6) (i := V.length - 1) gV1)) rfl rfl ?_
                  refine RQ.ev (.move rfl) rfl rfl ?_
                  refine RQ.ev (.move rfl) rfl rfl ?_
                  refine RQ.ev (.as (v' := .slice ra ((popL V true).map fun x => [i6 x]).length rc) (.sliceHi sl22 rfl rfl (by simp only []; omega)) (by rw [List.length_map, popL_len]; rfl)) rfl rfl ?_
                  refine RQ.ev (.assign rfl) rfl rfl ?_
                  refine RQ.ev (.assign rfl) rfl rfl ?_
                  refine RQ.nil (fun w49 s50 => RC.back ?_)
                  have S := S.trans s50
                  have hb_5 := hb_5.sub s50
                  have hK := hK.sub s50
                  have o7 := o7.sub s50
                  have o6 := o6.sub s50
                  have hb_12 := hb_12.sub s50
                  have hA' := hA'.sub s50
                  have hb_13 := hb_13.sub s50
                  refine RC.seq ?_
                  refine RC.seq ?_
                  refine RC.region rfl ?_
                  refine RL.ev (.move rfl) rfl rfl ?_
                  refine RL.ev (.move rfl) rfl rfl ?_
                  refine RL.ev (.as (v' := .bool false) (.bin rfl rfl rfl) (congrArg Value.bool (decide_eq_false (fun h => h hv')))) rfl rfl ?_
                  refine RL.nil (RC.back ?_)
                  refine RC.cond_f rfl ?_
                  refine RC.skip (RC.back ?_)
                  refine RC.region rfl ?_
                  refine RL.ev (.loadR ([.slice na' A'.nodes.length nc', .slice fa' A'.free.length fc']) sh26 rfl hb_13.row rfl) rfl rfl ?_
                  refine RL.ev (.move rfl) rfl rfl ?_
                  refine RL.ev (.move rfl) rfl rfl ?_
                  refine RL.store sh26 rfl rfl rfl hb_5 (by exact Nat.le_of_ble_eq_true rfl) (by rfl) rfl (fun w51 z51 hb_5 a51 => ?_)
                  have S := S.upd a51 ge_5
                  have hK := hK.updD a51 d1
                  have o7 := o7.updD a51 d2
                  have o6 := o6.updD a51 d3
                  have hb_12 := hb_12.upd a51 n_5__12.symm
                  have hA' := hA'.updD a51 d_hA'_b_5
                  have hb_13 := hb_13.upd a51 n_5__13.symm
                  have hb_5 : Has w51 b_5 ([.slice na' A'.nodes.length nc', .slice fa' A'.free.length fc']) _ := hb_5.now (by kernel_rfl)
                  refine RL.ev (.assign rfl) rfl rfl ?_
                  refine RL.ev (.assign rfl) rfl rfl ?_
                  exact RL.nil (fun a ka => ⟨((A', na', fa', nc', fc'), r', _, (ra, rc, popL V true)), ⟨by show (popL V true).length ≤ _; omega, ⟨hb_5, (hA'.and hK).imp (J := KW na' fa' A' _ (popL V true) T) (fun u h => ⟨h.1, slTakeM h.2.2.1 _, h.2.2.2⟩), o7, o6, (fun k hk => hk.elim (d_hA'_b_5 k) (d1 k)), d2, d3, (fun k h1 hk => hk.elim (d_hA'_o7 k h1) (d4 k h1)), (fun k h1 hk => hk.elim (d_hA'_o6 k h1) (d5 k h1)), d6, S, hu', hok', ⟨P', hR'⟩, hnc', hfc', by show (popL V true).length ≤ rc; omega, fun t ht => (hold t ht).ext hE⟩⟩, ka.keep (keep_of (by repeat (first | exact trivial | refine And.intro rfl ?_)))⟩)
                ·
                  subst h48
                  refine RC.skip (RC.back ?_)
                  refine RC.seq ?_
                  refine RC.seq ?_
                  refine RC.region rfl ?_
                  refine RL.ev (.move rfl) rfl rfl ?_
                  refine RL.ev (.move rfl) rfl rfl ?_
                  refine RL.ev (.as (v' := .bool false) (.bin rfl rfl rfl) (congrArg Value.bool (decide_eq_false (fun h => h hv')))) rfl rfl ?_
                  refine RL.nil (RC.back ?_)
                  refine RC.cond_f rfl ?_
                  refine RC.skip (RC.back ?_)
                  refine RC.region rfl ?_
                  refine RL.ev (.loadR ([.slice na' A'.nodes.length nc', .slice fa' A'.free.length fc']) sh26 rfl hb_13.row rfl) rfl rfl ?_
                  refine RL.ev (.move rfl) rfl rfl ?_
                  refine RL.ev (.move rfl) rfl rfl ?_
                  refine RL.store sh26 rfl rfl rfl hb_5 (by exact Nat.le_of_ble_eq_true rfl) (by rfl) rfl (fun w52 z52 hb_5 a52 => ?_)
                  have S := S.upd a52 ge_5
                  have hK := hK.updD a52 d1
                  have o7 := o7.updD a52 d2
                  have o6 := o6.updD a52 d3
                  have hb_12 := hb_12.upd a52 n_5__12.symm
                  have hA' := hA'.updD a52 d_hA'_b_5
                  have hb_13 := hb_13.upd a52 n_5__13.symm
                  have hb_5 : Has w52 b_5 ([.slice na' A'.nodes.length nc', .slice fa' A'.free.length fc']) _ := hb_5.now (by kernel_rfl)
                  refine RL.ev (.assign rfl) rfl rfl ?_
                  refine RL.ev (.assign rfl) rfl rfl ?_
                  exact RL.nil (fun a ka => ⟨((A', na', fa', nc', fc'), r', _, (_, _, popL V false)), ⟨by show (popL V false).length ≤ _; omega, ⟨hb_5, (hA'.and hK).imp (J := KW na' fa' A' _ (popL V false) T) (fun u h => ⟨h.1, slDropM h.2.2.1 1 hrc, h.2.2.2⟩), o7, o6, (fun k hk => hk.elim (d_hA'_b_5 k) (d1 k)), d2, d3, (fun k h1 hk => hk.elim (d_hA'_o7 k h1) (d4 k h1)), (fun k h1 hk => hk.elim (d_hA'_o6 k h1) (d5 k h1)), d6, S, hu', hok', ⟨P', hR'⟩, hnc', hfc', by show (popL V false).length ≤ rc - 1; omega, fun t ht => (hold t ht).ext hE⟩⟩, ka.keep (keep_of (by repeat (first | exact trivial | refine And.intro rfl ?_)))⟩)
            ·
              have h77 := h44
              refine RL.off rfl rfl ?_
              refine RL.off rfl rfl ?_
              refine RL.ev (.pick_f rfl rfl) rfl rfl ?_
              refine RL.ev (.pick_f rfl rfl) rfl rfl ?_
              refine RL.nil (RC.back ?_)
              refine RC.cond_f rfl ?_
              refine RC.skip (RC.back ?_)
              refine RC.seq ?_
              refine RC.seq ?_
              refine RC.region rfl ?_
              refine RL.ev (.move rfl) rfl rfl ?_
              refine RL.ev (.bin rfl rfl rfl) rfl rfl ?_
              refine RL.nil (RC.back ?_)
              refine RC.cond_dec rfl (fun h53 => ?_) (fun h53 => ?_)
              ·
                have h83 := h53
                refine RC.exit rfl (RC.back ?_)
                refine RC.region rfl ?_
                refine RL.ev (.as (.bin rfl rfl rfl) (wi64 (y := ((i + 1 : Nat) : Int)) (by omega) (by omega))) rfl rfl ?_
                refine RL.ev (.move rfl) rfl rfl ?_
                exact RL.nil (fun a ka => ⟨(i + 1, (A, na, fa, nc, fc), r, M, (ra, rc, V), (ta, tc), (va, vc), T), ⟨⟨by omega, by show V.length ≤ _; omega, by show T.length ≤ _; omega, by omega⟩, ⟨hb_5, hK, o7, o6, d1, d2, d3, d4, d5, d6, S, hu, hok, ⟨P, hR⟩, hnc, hfc, hrc, hold⟩⟩, by omega, ka.keep (keep_of (by repeat (first | exact trivial | refine And.intro rfl ?_)))⟩)
              ·
                have he0 : e' = 0 := (by have := h53; omega)
                obtain ⟨hVp, _, hv', hE, hok', hf', P', hR'⟩ := hD.resolve_left (fun h => by omega)
                have gV0 := get_front hVp
                have gV1 := get_back hVp
                have hpol := popL_len V bk
                refine RC.skip (RC.back ?_)
                refine RC.seq ?_
                refine RC.draw rfl mxo (by kernel_rfl) ?_
                refine RQ.ev (.move rfl) rfl rfl ?_
                refine RQ.ev (.indexS sl22 rfl rfl (by simp only [List.length_map]; omega) (hV1.is (i := 0) (by simp only [List.length_map]; omega))) rfl rfl ?_
                refine RQ.ev (.load1 sh2 rfl (hK.now.2.1.one (enc := i6) (i := 0) gV0)) rfl rfl ?_
                refine RQ.ev (.move rfl) rfl rfl ?_
                refine RQ.ev (.as (v' := .slice (if rc = 1 then ra else ra.map (·.add (1 * 1))) ((popL V false).map fun x => [i6 x]).length (rc - 1)) (.sliceLo sl22 rfl rfl (by simp only [List.length_map]; omega)) (by rw [List.length_map, List.length_map, popL_len]; rfl)) rfl rfl ?_
                refine RQ.ev (.assign rfl) rfl rfl ?_
                refine RQ.ev (.assign rfl) rfl rfl ?_
                refine RQ.nil (fun w54 s55 => RC.back ?_)
                have S := S.trans s55
                have hb_5 := hb_5.sub s55
                have hK := hK.sub s55
                have o7 := o7.sub s55
                have o6 := o6.sub s55
                have hb_12 := hb_12.sub s55
                have hA' := hA'.sub s55
                have hb_13 := hb_13.sub s55
                refine RC.seq ?_
                refine RC.seq ?_
                refine RC.region rfl ?_
                refine RL.ev (.move rfl) rfl rfl ?_
                refine RL.ev (.as (v' := .int .i64 (V.length : Int)) (.len sl22 rfl) (by rw [List.length_map])) rfl rfl ?_
                refine RL.ev (.as (.bin rfl rfl rfl) (wi64 (y := ((V.length - 1 : Nat) : Int)) (by omega) (by omega))) rfl rfl ?_
                refine RL.ev (.assign rfl) rfl rfl ?_
                refine RL.nil (RC.back ?_)
                refine RC.seq ?_
                refine RC.region rfl ?_
                refine RL.ev (.field0 fo64_1 rfl) rfl rfl ?_
                refine RL.ev (.load1 sh4 rfl (hb_12.cell rfl)) rfl rfl ?_
                refine RL.nil (RC.back ?_)
                refine RC.cond rfl (fun h56 => ?_) (fun h56 => ?_)
                ·
                  subst h56
                  refine RC.draw rfl mxo (by kernel_rfl) ?_
                  refine RQ.ev (.move rfl) rfl rfl ?_
                  refine RQ.ev (.move rfl) rfl rfl ?_
                  refine RQ.ev (.indexS sl22 rfl rfl (by simp only [List.length_map]; omega) (hV1.is (i := 0) (by simp only [List.length_map]; omega))) rfl rfl ?_
                  refine RQ.ev (.load1 sh2 rfl (hK.now.2.1.one (enc := i6) (i := V.length - 1) gV1)) rfl rfl ?_
                  refine RQ.ev (.move rfl) rfl rfl ?_
                  refine RQ.ev (.move rfl) rfl rfl ?_
                  refine RQ.ev (.as (v' := .slice ra ((popL V true).map fun x => [i6 x]).length rc) (.sliceHi sl22 rfl rfl (by simp only []; omega)) (by rw [List.length_map, popL_len]; rfl)) rfl rfl ?_
                  refine RQ.ev (.assign rfl) rfl rfl ?_
                  refine RQ.ev (.assign rfl) rfl rfl ?_
                  refine RQ.nil (fun w57 s58 => RC.back ?_)
                  have S := S.trans s58
                  have hb_5 := hb_5.sub s58
                  have hK := hK.sub s58
                  have o7 := o7.sub s58
                  have o6 := o6.sub s58
                  have hb_12 := hb_12.sub s58
                  have hA' := hA'.sub s58
                  have hb_13 := hb_13.sub s58
                  refine RC.seq ?_
                  refine RC.seq ?_
                  refine RC.region rfl ?_
                  refine RL.ev (.move rfl) rfl rfl ?_
                  refine RL.ev (.move rfl) rfl rfl ?_
                  refine RL.ev (.as (v' := .bool false) (.bin rfl rfl rfl) (congrArg Value.bool (decide_eq_false (fun h => h hv')))) rfl rfl ?_
                  refine RL.nil (RC.back ?_)
                  refine RC.cond_f rfl ?_
                  refine RC.skip (RC.back ?_)
                  refine RC.region rfl ?_
                  refine RL.ev (.loadR ([.slice na' A'.nodes.length nc', .slice fa' A'.free.length fc']) sh26 rfl hb_13.row rfl) rfl rfl ?_
                  refine RL.ev (.move rfl) rfl rfl ?_
                  refine RL.ev (.move rfl) rfl rfl ?_
                  refine RL.store sh26 rfl rfl rfl hb_5 (by exact Nat.le_of_ble_eq_true rfl) (by rfl) rfl (fun w59 z59 hb_5 a59 => ?_)
                  have S := S.upd a59 ge_5
                  have hK := hK.updD a59 d1
                  have o7 := o7.updD a59 d2
                  have o6 := o6.updD a59 d3
                  have hb_12 := hb_12.upd a59 n_5__12.symm
                  have hA' := hA'.updD a59 d_hA'_b_5
                  have hb_13 := hb_13.upd a59 n_5__13.symm
                  have hb_5 : Has w59 b_5 ([.slice na' A'.nodes.length nc', .slice fa' A'.free.length fc']) _ := hb_5.now (by kernel_rfl)
                  refine RL.ev (.assign rfl) rfl rfl ?_
                  refine RL.ev (.assign rfl) rfl rfl ?_
                  exact RL.nil (fun a ka => ⟨((A', na', fa', nc', fc'), r', _, (ra, rc, popL V true)), ⟨by show (popL V true).length ≤ _; omega, ⟨hb_5, (hA'.and hK).imp (J := KW na' fa' A' _ (popL V true) T) (fun u h => ⟨h.1, slTakeM h.2.2.1 _, h.2.2.2⟩), o7, o6, (fun k hk => hk.elim (d_hA'_b_5 k) (d1 k)), d2, d3, (fun k h1 hk => hk.elim (d_hA'_o7 k h1) (d4 k h1)), (fun k h1 hk => hk.elim (d_hA'_o6 k h1) (d5 k h1)), d6, S, hu', hok', ⟨P', hR'⟩, hnc', hfc', by show (popL V true).length ≤ rc; omega, fun t ht => (hold t ht).ext hE⟩⟩, ka.keep (keep_of (by repeat (first | exact trivial | refine And.intro rfl ?_)))⟩)
                ·
                  subst h56
                  refine RC.skip (RC.back ?_)
                  refine RC.seq ?_
                  refine RC.seq ?_
                  refine RC.region rfl ?_
                  refine RL.ev (.move rfl) rfl rfl ?_
                  refine RL.ev (.move rfl) rfl rfl ?_
                  refine RL.ev (.as (v' := .bool false) (.bin rfl rfl rfl) (congrArg Value.bool (decide_eq_false (fun h => h hv')))) rfl rfl ?_
                  refine RL.nil (RC.back ?_)
                  refine RC.cond_f rfl ?_
                  refine RC.skip (RC.back ?_)
                  refine RC.region rfl ?_
                  refine RL.ev (.loadR ([.slice na' A'.nodes.length nc', .slice fa' A'.free.length fc']) sh26 rfl hb_13.row rfl) rfl rfl ?_
                  refine RL.ev (.move rfl) rfl rfl ?_
                  refine RL.ev (.move rfl) rfl rfl ?_
                  refine RL.store sh26 rfl rfl rfl hb_5 (by exact Nat.le_of_ble_eq_true rfl) (by rfl) rfl (fun w60 z60 hb_5 a60 => ?_)
                  have S := S.upd a60 ge_5
                  have hK := hK.updD a60 d1
                  have o7 := o7.updD a60 d2
                  have o6 := o6.updD a60 d3
                  have hb_12 := hb_12.upd a60 n_5__12.symm
                  have hA' := hA'.updD a60 d_hA'_b_5
                  have hb_13 := hb_13.upd a60 n_5__13.symm
                  have hb_5 : Has w60 b_5 ([.slice na' A'.nodes.length nc', .slice fa' A'.free.length fc']) _ := hb_5.now (by kernel_rfl)
                  refine RL.ev (.assign rfl) rfl rfl ?_
                  refine RL.ev (.assign rfl) rfl rfl ?_
                  exact RL.nil (fun a ka => ⟨((A', na', fa', nc', fc'), r', _, (_, _, popL V false)), ⟨by show (popL V false).length ≤ _; omega, ⟨hb_5, (hA'.and hK).imp (J := KW na' fa' A' _ (popL V false) T) (fun u h => ⟨h.1, slDropM h.2.2.1 1 hrc, h.2.2.2⟩), o7, o6, (fun k hk => hk.elim (d_hA'_b_5 k) (d1 k)), d2, d3, (fun k h1 hk => hk.elim (d_hA'_o7 k h1) (d4 k h1)), (fun k h1 hk => hk.elim (d_hA'_o6 k h1) (d5 k h1)), d6, S, hu', hok', ⟨P', hR'⟩, hnc', hfc', by show (popL V false).length ≤ rc - 1; omega, fun t ht => (hold t ht).ext hE⟩⟩, ka.keep (keep_of (by repeat (first | exact trivial | refine And.intro rfl ?_)))⟩)
          ·
            have hpb := h40
            refine RC.seq ?_
            refine RC.region rfl ?_
            refine RL.ev (.loadR ([.slice na A.nodes.length nc, .slice fa A.free.length fc]) sh26 rfl hb_5.row rfl) rfl rfl ?_
            refine RL.ev (.move rfl) rfl rfl ?_
            refine RL.ev (.field0 fo64_1 rfl) rfl rfl ?_
            refine RL.ev (.load1 sh4 rfl (hb_12.cell rfl)) rfl rfl ?_
            refine RL.ev (.field0 fo64_2 rfl) rfl rfl ?_
            refine RL.ev (.load1 sh2 rfl (hb_12.cell rfl)) rfl rfl ?_
            refine RL.call rfl ok11 (c_dpush A na fa nc fc hnc hfc r bk vv hu hxv M w6 (hK.imp fun u h => h.1)) rfl rfl ?_
            rintro _ w61 ⟨s62, na', fa', nc', fc', A', r', e', M', rfl, hu', hnc', hfc', hA', hup, hpp⟩
            have d_hA'_b_5 := upNe hup d1 hb_5.lt
            have dd_o7_hA' := upDD hup d4 (fun k hk => (o7.ge k hk).2)
            have dd_o6_hA' := upDD hup d5 (fun k hk => (o6.ge k hk).2)
            have d_hA'_b_12 := upNe hup d_hK_b_12 hb_12.lt
            have d_hA'_o7 := upDD hup d4 (fun k hk => (o7.ge k hk).2)
            have d_hA'_o6 := upDD hup d5 (fun k hk => (o6.ge k hk).2)
            have hlt5 := hb_5.lt
            have S := S.trans s62
            have hb_5 := hb_5.sub s62
            have hK := hK.sub s62
            have o7 := o7.sub s62
            have o6 := o6.sub s62
            have hb_12 := hb_12.sub s62
            obtain ⟨rfl, hE, hok', hf', P', hR'⟩ := hpp.good hok hR (by omega) (by omega)
            have hpl := pushL_len V bk vv
            refine RL.ev (.move rfl) rfl rfl ?_
            refine RL.ev (.extract rfl rfl) rfl rfl ?_
            refine RL.ev (.extract rfl rfl) rfl rfl ?_
            refine RL.ev (.extract rfl rfl) rfl rfl ?_
            refine RL.alloc ze26 rfl rfl (fun b_20 w_20 e_20 z_20 hb_20 s_20 => ?_)
            have ge_20 := S.le e_20
            have n_5__20 := hb_5.ne e_20
            have n_12__20 := hb_12.ne e_20
            have d_hK_b_20 := hK.neNew e_20
            have d_o7_b_20 := o7.neNew e_20
            have d_o6_b_20 := o6.neNew e_20
            have d_hA'_b_20 := hA'.neNew e_20
            have S := S.trans s_20
            have hb_5 := hb_5.sub s_20
            have hK := hK.sub s_20
            have o7 := o7.sub s_20
            have o6 := o6.sub s_20
            have hb_12 := hb_12.sub s_20
            have hA' := hA'.sub s_20
            refine RL.store sh26 rfl rfl rfl hb_20 (by exact Nat.le_of_ble_eq_true rfl) (by rfl) rfl (fun w63 z63 hb_20 a63 => ?_)
            have S := S.upd a63 ge_20
            have hb_5 := hb_5.upd a63 n_5__20
            have hK := hK.updD a63 d_hK_b_20
            have o7 := o7.updD a63 d_o7_b_20
            have o6 := o6.updD a63 d_o6_b_20
            have hb_12 := hb_12.upd a63 n_12__20
            have hA' := hA'.updD a63 d_hA'_b_20
            have hb_20 : Has w63 b_20 ([.slice na' A'.nodes.length nc', .slice fa' A'.free.length fc']) _ := hb_20.now (by kernel_rfl)
            refine RL.ev (.assign rfl) rfl rfl ?_
            refine RL.ev (.assign rfl) rfl rfl ?_
            refine RL.nil (RC.back ?_)
            refine RC.seq ?_
            refine RC.seq ?_
            refine RC.region rfl ?_
            refine RL.ev (.move rfl) rfl rfl ?_
            refine RL.ev (.as (v' := .bool false) (.bin rfl rfl rfl) (congrArg Value.bool (decide_eq_false (fun h => h rfl)))) rfl rfl ?_
            refine RL.nil (RC.back ?_)
            refine RC.cond_f rfl ?_
            refine RC.skip (RC.back ?_)
            refine RC.seq ?_
            refine RC.region rfl ?_
            refine RL.ev (.loadR ([.slice na' A'.nodes.length nc', .slice fa' A'.free.length fc']) sh26 rfl hb_20.row rfl) rfl rfl ?_
            refine RL.ev (.move rfl) rfl rfl ?_
            refine RL.store sh26 rfl rfl rfl hb_5 (by exact Nat.le_of_ble_eq_true rfl) (by rfl) rfl (fun w64 z64 hb_5 a64 => ?_)
            have S := S.upd a64 ge_5
            have hK := hK.updD a64 d1
            have o7 := o7.updD a64 d2
            have o6 := o6.updD a64 d3
            have hb_12 := hb_12.upd a64 n_5__12.symm
            have hA' := hA'.updD a64 d_hA'_b_5
            have hb_20 := hb_20.upd a64 n_5__20.symm
            have hb_5 : Has w64 b_5 ([.slice na' A'.nodes.length nc', .slice fa' A'.free.length fc']) _ := hb_5.now (by kernel_rfl)
            refine RL.ev (.assign rfl) rfl rfl ?_
            refine RL.nil (RC.back ?_)
            refine RC.seq ?_
            refine RC.region rfl ?_
            refine RL.ev (.field0 fo64_1 rfl) rfl rfl ?_
            refine RL.ev (.load1 sh4 rfl (hb_12.cell rfl)) rfl rfl ?_
            refine RL.nil (RC.back ?_)
            refine RC.cond rfl (fun h65 => ?_) (fun h65 => ?_)
            ·
              subst h65
              have lt5 := hb_5.lt
              obtain ⟨E, hE9⟩ : ∃ E, E = w64.heap.size := ⟨_, rfl⟩
              obtain ⟨W7, hW7⟩ : ∃ W, W = w64 := ⟨_, rfl⟩
              have hWE : W7.heap.size = E := (by rw [hW7, hE9])
              have S7 : Sub W7 w64 := hW7 ▸ Sub.refl _
              have szS := S.size
              rw [← hE9] at lt5 szS
              rw [← hW7] at hb_5 hA' hK o7 o6
              refine RC.drawD (fun k => False) [] w64.heap.size 8 rfl rfl mxo (fun w66 s67 => ?_)
              have hNN : ∀ k, ((False) ∨ w64.heap.size ≤ k) → w.heap.size ≤ k := fun k e => e.elim (fun e => e.elim) (fun e => Nat.le_trans S.size e)
              have ent_S := S.size
              have ent_S7 := S7.size
              have hN0 : ∀ k, w64.heap.size ≤ k → w.heap.size ≤ k := fun k e => Nat.le_trans S.size e
              have ltD_b_12 := hb_12.lt
              have szD := Nat.le_refl w64.heap.size
              have S := S.trans s67
              have hb_12 := hb_12.sub s67
              have S7 := S7.trans s67
              have szD := Nat.le_trans szD s67.size
              refine RD.take 1 rfl (by kernel_rfl) (by kernel_rfl) (by kernel_rfl) (fun w' s' => .move rfl) rfl rfl ?_
              refine RD.take 3 rfl (by kernel_rfl) (by kernel_rfl) (by kernel_rfl) (fun w' s' => .field0 fo64_2 rfl) rfl rfl ?_
              refine RD.take 4 rfl (by kernel_rfl) (by kernel_rfl) (by kernel_rfl) (fun w' s' => .load1 sh2 rfl ((hb_12.step s' (fun e => e.elim (fun e => e.elim) (fun e => Nat.not_le.2 ltD_b_12 e))).cell rfl)) rfl rfl ?_
              refine RD.all [0, 5] (by kernel_rfl) rfl (RDs.cons rfl ?_ (RDs.cons rfl ?_ (RDs.nil)))
              ·
                refine RL.buildSlice0 sl22 rfl rfl (fun b_124 w_124 e_124 z_124 hb_124 s_124 => ?_)
                have fr_b_124 : w64.heap.size ≤ b_124 := by rw [e_124]; exact szD
                have ge_124 := S.le e_124
                have n_12__124 := hb_12.ne e_124
                have S := S.trans s_124
                have hb_12 := hb_12.sub s_124
                have geS7_124 := S7.le e_124
                have S7 := S7.trans s_124
                have szD := Nat.le_trans szD s_124.size
                have szE := S7.size
                rw [hWE] at szE
                refine RD.back s_124.agr ?_
                refine RD.all [2, 5] (by kernel_rfl) rfl (RDs.cons rfl ?_ (RDs.cons rfl ?_ (RDs.nil)))
                ·
                  have sz_126 := S.size
                  have ltb_12_126 := hb_12.lt
                  have szS7_126 := S7.size
                  have ltb_124_126 := hb_124.lt
                  refine RL.append2 (base := E) (rows := []) (news := V.map fun x => [i6 x]) sl22 ze2 rfl rfl rfl rfl (.inl (Ows.lit0 hb_124 (by omega))) (hK.now.2.1.sub S7) (by simp only [List.length_map]) (by intro r hr; obtain ⟨x, _, rfl⟩ := List.mem_map.1 hr; rfl) (by rw [List.all_eq_true]; intro r hr; obtain ⟨x, _, rfl⟩ := List.mem_map.1 hr; rfl) (by (try simp only [List.length_map, List.length_nil, List.length_append, List.length_cons]); omega) (by (try simp only [List.length_map, List.length_nil, List.length_append, List.length_cons]); omega) (by omega) rfl rfl (fun v_126 w_126 hc_126 ho_126 ag_126 ob_126 => ?_)
                  have o126 := ho_126 (.inr (Ows.lit0 hb_124 (by omega)))
                  have d_o126_b_12 := obNe ob_126 (fun k hk e => n_12__124.symm ((obLit hk).trans e)) hb_12.lt
                  have S := S.agrN ag_126 (fun k e => Nat.le_trans (by omega) e.2)
                  have hb_12 := hb_12.step ag_126 (fun e => n_12__124.symm (obLit e.1))
                  have S7 := S7.agrN ag_126 (fun k e => Nat.le_trans (by omega) e.2)
                  have szD := Nat.le_trans szD ag_126.size
                  obtain ⟨a_126, c_126, rfl, k_126⟩ := o126.form
                  refine RD.back (ag_126.mono fun k _ e => by have := e.2; omega) ?_
                  refine RD.all [5] (by kernel_rfl) rfl (RDs.cons rfl ?_ (RDs.nil))
                  refine RL.buildSlice1 sl22 _ ze2 rfl rfl rfl rfl rfl rfl rfl (fun b_129 w_129 e_129 z_129 hb_129 s_129 => ?_)
                  have fr_b_129 : w64.heap.size ≤ b_129 := by rw [e_129]; exact szD
                  have ge_129 := S.le e_129
                  have n_12__129 := hb_12.ne e_129
                  have d_o126_b_129 := o126.neNew e_129
                  have S := S.trans s_129
                  have hb_12 := hb_12.sub s_129
                  have geS7_129 := S7.le e_129
                  have S7 := S7.trans s_129
                  have szD := Nat.le_trans szD s_129.size
                  have o126 := o126.sub s_129
                  refine RD.back s_129.agr ?_
                  refine RD.all [6] (by kernel_rfl) rfl (RDs.cons rfl ?_ (RDs.nil))
                  have sz_130 := S.size
                  have ltb_12_130 := hb_12.lt
                  have szS7_130 := S7.size
                  have ltb_129_130 := hb_129.lt
                  refine RL.append2 (base := E) (rows := V.map fun x => [i6 x]) (news := [_]) sl22 ze2 rfl rfl rfl rfl (.inl o126) (Has.slOne hb_129) rfl (by intro r hr; rw [List.mem_singleton] at hr; subst hr; rfl) rfl (by (try simp only [List.length_map, List.length_nil, List.length_append, List.length_cons]); omega) (by (try simp only [List.length_map, List.length_nil, List.length_append, List.length_cons]); omega) (by omega) rfl rfl (fun v_130 w_130 hc_130 ho_130 ag_130 ob_130 => ?_)
                  have o130 := ho_130 (.inl (by simp))
                  rw [show _ ++ [_] = ((V ++ [vv]).map fun x => [i6 x]) from by rw [List.map_append]; rfl] at o130
                  have d_o130_b_12 := obNe ob_130 d_o126_b_12 hb_12.lt
                  have S := S.agrN ag_130 (fun k e => Nat.le_trans (by omega) e.2)
                  have hb_12 := hb_12.step ag_130 (fun e => d_o126_b_12 _ e.1 rfl)
                  have S7 := S7.agrN ag_130 (fun k e => Nat.le_trans (by omega) e.2)
                  have szD := Nat.le_trans szD ag_130.size
                  obtain ⟨a_130, c_130, rfl, k_130⟩ := o130.form
                  refine RD.back (ag_130.mono fun k _ e => by have := e.2; omega) ?_
                  refine RD.take 7 rfl (by kernel_rfl) (by kernel_rfl) (by kernel_rfl) (fun w' s' => .assign rfl) rfl rfl ?_
                  exact RD.done (by kernel_rfl) (fun a ka => ⟨((A', na', fa', nc', fc'), r', _, (a_130, c_130, pushL V true vv)), ⟨by show (pushL V true vv).length ≤ _; omega, ⟨hb_5.sub S7, (((hA'.sub S7).and (hK.sub S7)).and o130.ft).imp (J := KW na' fa' A' a_130 (pushL V true vv) T) (fun u h => ⟨h.1.1, h.2.sl.1, h.1.2.2.2⟩), o7.sub S7, o6.sub S7, (fun k hk => hk.elim (fun hk => hk.elim (d_hA'_b_5 k) (d1 k)) (fun h2 e => by have := (o130.ge k h2).1; omega)), d2, d3, (fun k h1 hk => hk.elim (fun hk => hk.elim (d_hA'_o7 k h1) (d4 k h1)) (fun h2 => by have := (o7.ge k h1).2; have := (o130.ge k h2).1; omega)), (fun k h1 hk => hk.elim (fun hk => hk.elim (d_hA'_o6 k h1) (d5 k h1)) (fun h2 => by have := (o6.ge k h1).2; have := (o130.ge k h2).1; omega)), d6, S, hu', hok', ⟨P', hR'⟩, hnc', hfc', (by have := k_130; simpa [pushL] using this), fun t ht => (hold t ht).ext hE⟩⟩, ka.keep (keep_of (by repeat (first | exact trivial | refine And.intro rfl ?_)))⟩)
                ·
                  refine RL.buildSlice1 sl22 _ ze2 rfl rfl rfl rfl rfl rfl rfl (fun b_129 w_129 e_129 z_129 hb_129 s_129 => ?_)
                  have fr_b_129 : w64.heap.size ≤ b_129 := by rw [e_129]; exact szD
                  have ge_129 := S.le e_129
                  have n_12__129 := hb_12.ne e_129
                  have n_124__129 := hb_124.ne e_129
                  have S := S.trans s_129
                  have hb_12 := hb_12.sub s_129
                  have geS7_129 := S7.le e_129
                  have S7 := S7.trans s_129
                  have szD := Nat.le_trans szD s_129.size
                  have hb_124 := hb_124.sub s_129
                  refine RD.back s_129.agr ?_
                  refine RD.all [2] (by kernel_rfl) rfl (RDs.cons rfl ?_ (RDs.nil))
                  have sz_126 := S.size
                  have ltb_12_126 := hb_12.lt
                  have szS7_126 := S7.size
                  have ltb_124_126 := hb_124.lt
                  have ltb_129_126 := hb_129.lt
                  refine RL.append2 (base := E) (rows := []) (news := V.map fun x => [i6 x]) sl22 ze2 rfl rfl rfl rfl (.inl (Ows.lit0 hb_124 (by omega))) (hK.now.2.1.sub S7) (by simp only [List.length_map]) (by intro r hr; obtain ⟨x, _, rfl⟩ := List.mem_map.1 hr; rfl) (by rw [List.all_eq_true]; intro r hr; obtain ⟨x, _, rfl⟩ := List.mem_map.1 hr; rfl) (by (try simp only [List.length_map, List.length_nil, List.length_append, List.length_cons]); omega) (by (try simp only [List.length_map, List.length_nil, List.length_append, List.length_cons]); omega) (by omega) rfl rfl (fun v_126 w_126 hc_126 ho_126 ag_126 ob_126 => ?_)
                  have o126 := ho_126 (.inr (Ows.lit0 hb_124 (by omega)))
                  have d_o126_b_12 := obNe ob_126 (fun k hk e => n_12__124.symm ((obLit hk).trans e)) hb_12.lt
                  have d_o126_b_129 := obNe ob_126 (fun k hk e => n_124__129 ((obLit hk).trans e)) hb_129.lt
                  have S := S.agrN ag_126 (fun k e => Nat.le_trans (by omega) e.2)
                  have hb_12 := hb_12.step ag_126 (fun e => n_12__124.symm (obLit e.1))
                  have S7 := S7.agrN ag_126 (fun k e => Nat.le_trans (by omega) e.2)
                  have szD := Nat.le_trans szD ag_126.size
                  have hb_129 := hb_129.step ag_126 (fun e => n_124__129 (obLit e.1))
                  obtain ⟨a_126, c_126, rfl, k_126⟩ := o126.form
                  refine RD.back (ag_126.mono fun k _ e => by have := e.2; omega) ?_
                  refine RD.all [6] (by kernel_rfl) rfl (RDs.cons rfl ?_ (RDs.nil))
                  have sz_130 := S.size
                  have ltb_12_130 := hb_12.lt
                  have szS7_130 := S7.size
                  have ltb_129_130 := hb_129.lt
                  refine RL.append2 (base := E) (rows := V.map fun x => [i6 x]) (news := [_]) sl22 ze2 rfl rfl rfl rfl (.inl o126) (Has.slOne hb_129) rfl (by intro r hr; rw [List.mem_singleton] at hr; subst hr; rfl) rfl (by (try simp only [List.length_map, List.length_nil, List.length_append, List.length_cons]); omega) (by (try simp only [List.length_map, List.length_nil, List.length_append, List.length_cons]); omega) (by omega) rfl rfl (fun v_130 w_130 hc_130 ho_130 ag_130 ob_130 => ?_)
                  have o130 := ho_130 (.inl (by simp))
                  rw [show _ ++ [_] = ((V ++ [vv]).map fun x => [i6 x]) from by rw [List.map_append]; rfl] at o130
                  have d_o130_b_12 := obNe ob_130 d_o126_b_12 hb_12.lt
                  have S := S.agrN ag_130 (fun k e => Nat.le_trans (by omega) e.2)
                  have hb_12 := hb_12.step ag_130 (fun e => d_o126_b_12 _ e.1 rfl)
                  have S7 := S7.agrN ag_130 (fun k e => Nat.le_trans (by omega) e.2)
                  have szD := Nat.le_trans szD ag_130.size
                  obtain ⟨a_130, c_130, rfl, k_130⟩ := o130.form
                  refine RD.back (ag_130.mono fun k _ e => by have := e.2; omega) ?_
                  refine RD.take 7 rfl (by kernel_rfl) (by kernel_rfl) (by kernel_rfl) (fun w' s' => .assign rfl) rfl rfl ?_
                  exact RD.done (by kernel_rfl) (fun a ka => ⟨((A', na', fa', nc', fc'), r', _, (a_130, c_130, pushL V true vv)), ⟨by show (pushL V true vv).length ≤ _; omega, ⟨hb_5.sub S7, (((hA'.sub S7).and (hK.sub S7)).and o130.ft).imp (J := KW na' fa' A' a_130 (pushL V true vv) T) (fun u h => ⟨h.1.1, h.2.sl.1, h.1.2.2.2⟩), o7.sub S7, o6.sub S7, (fun k hk => hk.elim (fun hk => hk.elim (d_hA'_b_5 k) (d1 k)) (fun h2 e => by have := (o130.ge k h2).1; omega)), d2, d3, (fun k h1 hk => hk.elim (fun hk => hk.elim (d_hA'_o7 k h1) (d4 k h1)) (fun h2 => by have := (o7.ge k h1).2; have := (o130.ge k h2).1; omega)), (fun k h1 hk => hk.elim (fun hk => hk.elim (d_hA'_o6 k h1) (d5 k h1)) (fun h2 => by have := (o6.ge k h1).2; have := (o130.ge k h2).1; omega)), d6, S, hu', hok', ⟨P', hR'⟩, hnc', hfc', (by have := k_130; simpa [pushL] using this), fun t ht => (hold t ht).ext hE⟩⟩, ka.keep (keep_of (by repeat (first | exact trivial | refine And.intro rfl ?_)))⟩)
              ·
                refine RL.buildSlice1 sl22 _ ze2 rfl rfl rfl rfl rfl rfl rfl (fun b_129 w_129 e_129 z_129 hb_129 s_129 => ?_)
                have fr_b_129 : w64.heap.size ≤ b_129 := by rw [e_129]; exact szD
                have ge_129 := S.le e_129
                have n_12__129 := hb_12.ne e_129
                have S := S.trans s_129
                have hb_12 := hb_12.sub s_129
                have geS7_129 := S7.le e_129
                have S7 := S7.trans s_129
                have szD := Nat.le_trans szD s_129.size
                refine RD.back s_129.agr ?_
                refine RD.all [0] (by kernel_rfl) rfl (RDs.cons rfl ?_ (RDs.nil))
                refine RL.buildSlice0 sl22 rfl rfl (fun b_124 w_124 e_124 z_124 hb_124 s_124 => ?_)
                have fr_b_124 : w64.heap.size ≤ b_124 := by rw [e_124]; exact szD
                have ge_124 := S.le e_124
                have n_12__124 := hb_12.ne e_124
                have n_129__124 := hb_129.ne e_124
                have S := S.trans s_124
                have hb_12 := hb_12.sub s_124
                have geS7_124 := S7.le e_124
                have S7 := S7.trans s_124
                have szD := Nat.le_trans szD s_124.size
                have hb_129 := hb_129.sub s_124
                have szE := S7.size
                rw [hWE] at szE
                refine RD.back s_124.agr ?_
                refine RD.all [2] (by kernel_rfl) rfl (RDs.cons rfl ?_ (RDs.nil))
                have sz_126 := S.size
                have ltb_12_126 := hb_12.lt
                have szS7_126 := S7.size
                have ltb_129_126 := hb_129.lt
                have ltb_124_126 := hb_124.lt
                refine RL.append2 (base := E) (rows := []) (news := V.map fun x => [i6 x]) sl22 ze2 rfl rfl rfl rfl (.inl (Ows.lit0 hb_124 (by omega))) (hK.now.2.1.sub S7) (by simp only [List.length_map]) (by intro r hr; obtain ⟨x, _, rfl⟩ := List.mem_map.1 hr; rfl) (by rw [List.all_eq_true]; intro r hr; obtain ⟨x, _, rfl⟩ := List.mem_map.1 hr; rfl) (by (try simp only [List.length_map, List.length_nil, List.length_append, List.length_cons]); omega) (by (try simp only [List.length_map, List.length_nil, List.length_append, List.length_cons]); omega) (by omega) rfl rfl (fun v_126 w_126 hc_126 ho_126 ag_126 ob_126 => ?_)
                have o126 := ho_126 (.inr (Ows.lit0 hb_124 (by omega)))
                have d_o126_b_12 := obNe ob_126 (fun k hk e => n_12__124.symm ((obLit hk).trans e)) hb_12.lt
                have d_o126_b_129 := obNe ob_126 (fun k hk e => n_129__124.symm ((obLit hk).trans e)) hb_129.lt
                have S := S.agrN ag_126 (fun k e => Nat.le_trans (by omega) e.2)
                have hb_12 := hb_12.step ag_126 (fun e => n_12__124.symm (obLit e.1))
                have S7 := S7.agrN ag_126 (fun k e => Nat.le_trans (by omega) e.2)
                have szD := Nat.le_trans szD ag_126.size
                have hb_129 := hb_129.step ag_126 (fun e => n_129__124.symm (obLit e.1))
                obtain ⟨a_126, c_126, rfl, k_126⟩ := o126.form
                refine RD.back (ag_126.mono fun k _ e => by have := e.2; omega) ?_
                refine RD.all [6] (by kernel_rfl) rfl (RDs.cons rfl ?_ (RDs.nil))
                have sz_130 := S.size
                have ltb_12_130 := hb_12.lt
                have szS7_130 := S7.size
                have ltb_129_130 := hb_129.lt
                refine RL.append2 (base := E) (rows := V.map fun x => [i6 x]) (news := [_]) sl22 ze2 rfl rfl rfl rfl (.inl o126) (Has.slOne hb_129) rfl (by intro r hr; rw [List.mem_singleton] at hr; subst hr; rfl) rfl (by (try simp only [List.length_map, List.length_nil, List.length_append, List.length_cons]); omega) (by (try simp only [List.length_map, List.length_nil, List.length_append, List.length_cons]); omega) (by omega) rfl rfl (fun v_130 w_130 hc_130 ho_130 ag_130 ob_130 => ?_)
                have o130 := ho_130 (.inl (by simp))
                rw [show _ ++ [_] = ((V ++ [vv]).map fun x => [i6 x]) from by rw [List.map_append]; rfl] at o130
                have d_o130_b_12 := obNe ob_130 d_o126_b_12 hb_12.lt
                have S := S.agrN ag_130 (fun k e => Nat.le_trans (by omega) e.2)
                have hb_12 := hb_12.step ag_130 (fun e => d_o126_b_12 _ e.1 rfl)
                have S7 := S7.agrN ag_130 (fun k e => Nat.le_trans (by omega) e.2)
                have szD := Nat.le_trans szD ag_130.size
                obtain ⟨a_130, c_130, rfl, k_130⟩ := o130.form
                refine RD.back (ag_130.mono fun k _ e => by have := e.2; omega) ?_
                refine RD.take 7 rfl (by kernel_rfl) (by kernel_rfl) (by kernel_rfl) (fun w' s' => .assign rfl) rfl rfl ?_
                exact RD.done (by kernel_rfl) (fun a ka => ⟨((A', na', fa', nc', fc'), r', _, (a_130, c_130, pushL V true vv)), ⟨by show (pushL V true vv).length ≤ _; omega, ⟨hb_5.sub S7, (((hA'.sub S7).and (hK.sub S7)).and o130.ft).imp (J := KW na' fa' A' a_130 (pushL V true vv) T) (fun u h => ⟨h.1.1, h.2.sl.1, h.1.2.2.2⟩), o7.sub S7, o6.sub S7, (fun k hk => hk.elim (fun hk => hk.elim (d_hA'_b_5 k) (d1 k)) (fun h2 e => by have := (o130.ge k h2).1; omega)), d2, d3, (fun k h1 hk => hk.elim (fun hk => hk.elim (d_hA'_o7 k h1) (d4 k h1)) (fun h2 => by have := (o7.ge k h1).2; have := (o130.ge k h2).1; omega)), (fun k h1 hk => hk.elim (fun hk => hk.elim (d_hA'_o6 k h1) (d5 k h1)) (fun h2 => by have := (o6.ge k h1).2; have := (o130.ge k h2).1; omega)), d6, S, hu', hok', ⟨P', hR'⟩, hnc', hfc', (by have := k_130; simpa [pushL] using this), fun t ht => (hold t ht).ext hE⟩⟩, ka.keep (keep_of (by repeat (first | exact trivial | refine And.intro rfl ?_)))⟩)
            ·
              subst h65
              have lt5 := hb_5.lt
              obtain ⟨E, hE9⟩ : ∃ E, E = w64.heap.size := ⟨_, rfl⟩
              obtain ⟨W7, hW7⟩ : ∃ W, W = w64 := ⟨_, rfl⟩
              have hWE : W7.heap.size = E := (by rw [hW7, hE9])
              have S7 : Sub W7 w64 := hW7 ▸ Sub.refl _
              have szS := S.size
              rw [← hE9] at lt5 szS
              rw [← hW7] at hb_5 hA' hK o7 o6
              refine RC.region rfl ?_
              refine RL.ev (.field0 fo64_2 rfl) rfl rfl ?_
              refine RL.ev (.load1 sh2 rfl (hb_12.cell rfl)) rfl rfl ?_
              refine RL.buildSlice1 sl22 _ ze2 rfl rfl rfl rfl rfl rfl rfl (fun b_133 w_133 e_133 z_133 hb_133 s_133 => ?_)
              have ge_133 := S.le e_133
              have n_12__133 := hb_12.ne e_133
              have S := S.trans s_133
              have hb_12 := hb_12.sub s_133
              have geS7_133 := S7.le e_133
              have S7 := S7.trans s_133
              have szE := S7.size
              rw [hWE] at szE
              refine RL.ev (.move rfl) rfl rfl ?_
              have sz_135 := S.size
              have ltb_12_135 := hb_12.lt
              have szS7_135 := S7.size
              have ltb_133_135 := hb_133.lt
              refine RL.append2 (base := E) (rows := [[i6 vv]]) (news := V.map fun x => [i6 x]) sl22 ze2 rfl rfl rfl rfl (.inl (Ows.of_has (rows := [[i6 vv]]) (extra := []) hb_133 (by simp) (by omega) (Nat.le_refl _) (by decide) rfl)) (hK.now.2.1.sub S7) (by simp only [List.length_map]) (by intro r hr; obtain ⟨x, _, rfl⟩ := List.mem_map.1 hr; rfl) (by rw [List.all_eq_true]; intro r hr; obtain ⟨x, _, rfl⟩ := List.mem_map.1 hr; rfl) (by (try simp only [List.length_map, List.length_nil, List.length_append, List.length_cons]); omega) (by (try simp only [List.length_map, List.length_nil, List.length_append, List.length_cons]); omega) (by omega) rfl rfl (fun v_135 w_135 hc_135 ho_135 ag_135 ob_135 => ?_)
              have o135 := ho_135 (.inr (Ows.of_has (rows := [[i6 vv]]) (extra := []) hb_133 (by simp) (by omega) (Nat.le_refl _) (by decide) rfl))
              have d_o135_b_12 := obNe ob_135 (fun k hk e => n_12__133.symm ((obLit hk).trans e)) hb_12.lt
              have S := S.agrN ag_135 (fun k e => Nat.le_trans (by omega) e.2)
              have hb_12 := hb_12.step ag_135 (fun e => n_12__133.symm (obLit e.1))
              have S7 := S7.agrN ag_135 (fun k e => Nat.le_trans (by omega) e.2)
              obtain ⟨a_135, c_135, rfl, k_135⟩ := o135.form
              refine RL.ev (.assign rfl) rfl rfl ?_
              exact RL.nil (fun a ka => ⟨((A', na', fa', nc', fc'), r', _, (a_135, c_135, pushL V false vv)), ⟨by show (pushL V false vv).length ≤ _; omega, ⟨hb_5.sub S7, (((hA'.sub S7).and (hK.sub S7)).and o135.ft).imp (J := KW na' fa' A' a_135 (pushL V false vv) T) (fun u h => ⟨h.1.1, h.2.sl.1, h.1.2.2.2⟩), o7.sub S7, o6.sub S7, (fun k hk => hk.elim (fun hk => hk.elim (d_hA'_b_5 k) (d1 k)) (fun h2 e => by have := (o135.ge k h2).1; omega)), d2, d3, (fun k h1 hk => hk.elim (fun hk => hk.elim (d_hA'_o7 k h1) (d4 k h1)) (fun h2 => by have := (o7.ge k h1).2; have := (o135.ge k h2).1; omega)), (fun k h1 hk => hk.elim (fun hk => hk.elim (d_hA'_o6 k h1) (d5 k h1)) (fun h2 => by have := (o6.ge k h1).2; have := (o135.ge k h2).1; omega)), d6, S, hu', hok', ⟨P', hR'⟩, hnc', hfc', (by have := k_135; simpa [pushL] using this), fun t ht => (hold t ht).ext hE⟩⟩, ka.keep (keep_of (by repeat (first | exact trivial | refine And.intro rfl ?_)))⟩)
        obtain ⟨⟨A', na', fa', nc', fc'⟩, r', M', ⟨a1, c1, V'⟩⟩ := y_
        obtain ⟨hLi', ⟨hb_5, hK, o7, o6, d1, d2, d3, d4, d5, d6, S, hu', hok', ⟨P', hR'⟩, hnc', hfc', hc1, hold'⟩⟩ := hJ
        simp only [] at hLi' hb_5 hK o7 o6 d1 d2 d3 d4 d5 d6 hu' hok' hR' hnc' hfc' hc1 hold'
        have szB := S.size
        refine RC.seq ?_
        refine RC.region rfl ?_
        refine RL.ev (.move rfl) rfl rfl ?_
        refine RL.ev (.move rfl) rfl rfl ?_
        refine RL.buildSlice1 sl61 _ ze28 rfl rfl rfl rfl rfl rfl rfl (fun b_138 w_138 e_138 z_138 hb_138 s_138 => ?_)
        have ge_138 := S.le e_138
        have n_5__138 := hb_5.ne e_138
        have d_hK_b_138 := hK.neNew e_138
        have d_o7_b_138 := o7.neNew e_138
        have d_o6_b_138 := o6.neNew e_138
        have S := S.trans s_138
        have hb_5 := hb_5.sub s_138
        have hK := hK.sub s_138
        have o7 := o7.sub s_138
        have o6 := o6.sub s_138
        have sz_139 := S.size
        have ltb_5_139 := hb_5.lt
        have ltb_138_139 := hb_138.lt
        refine RL.append2 (base := w.heap.size) (rows := T.map RVs.root) (news := [_]) sl61 ze28 rfl rfl rfl rfl (.inl o7) (Has.slOne hb_138) rfl (by intro r hr; rw [List.mem_singleton] at hr; subst hr; rfl) rfl (by (try simp only [List.length_map, List.length_nil, List.length_append, List.length_cons]); omega) (by (try simp only [List.length_map, List.length_nil, List.length_append, List.length_cons]); omega) (by omega) rfl rfl (fun v_139 w_139 hc_139 ho_139 ag_139 ob_139 => ?_)
        have o99 := ho_139 (.inl (by simp))
        rw [show _ ++ [_] = ((T ++ [(⟨r', a1, c1, V'⟩ : RVs)]).map RVs.root) from by rw [List.map_append]; rfl] at o99
        have d_o99_b_5 := obNe ob_139 d2 hb_5.lt
        have dd_o99_hK := obDF ob_139 d4 (fun k hk => (hK.ge k hk).2)
        have dd_o99_o6 := obDD ob_139 d6 (fun k hk => (o6.ge k hk).2)
        have S := S.agrN ag_139 (fun k e => Nat.le_trans (by omega) e.2)
        have hb_5 := hb_5.step ag_139 (fun e => d2 _ e.1 rfl)
        have hK := hK.step ag_139 (fun k hk e => d4 k e.1 hk)
        have o6 := o6.step ag_139 (fun k hk e => d6 k e.1 hk)
        obtain ⟨a_139, c_139, rfl, k_139⟩ := o99.form
        refine RL.ev (.move rfl) rfl rfl ?_
        refine RL.ev (.move rfl) rfl rfl ?_
        refine RL.buildSlice1 sl62 _ ze22 rfl rfl rfl rfl rfl rfl rfl (fun b_142 w_142 e_142 z_142 hb_142 s_142 => ?_)
        have ge_142 := S.le e_142
        have n_5__142 := hb_5.ne e_142
        have d_hK_b_142 := hK.neNew e_142
        have d_o6_b_142 := o6.neNew e_142
        have d_o99_b_142 := o99.neNew e_142
        have S := S.trans s_142
        have hb_5 := hb_5.sub s_142
        have hK := hK.sub s_142
        have o6 := o6.sub s_142
        have o99 := o99.sub s_142
        have sz_143 := S.size
        have ltb_5_143 := hb_5.lt
        have ltb_142_143 := hb_142.lt
        refine RL.append2 (base := w.heap.size) (rows := T.map RVs.row) (news := [_]) sl62 ze22 rfl rfl rfl rfl (.inl o6) (Has.slOne hb_142) rfl (by intro r hr; rw [List.mem_singleton] at hr; subst hr; rfl) rfl (by (try simp only [List.length_map, List.length_nil, List.length_append, List.length_cons]); omega) (by (try simp only [List.length_map, List.length_nil, List.length_append, List.length_cons]); omega) (by omega) rfl rfl (fun v_143 w_143 hc_143 ho_143 ag_143 ob_143 => ?_)
        have o103 := ho_143 (.inl (by simp))
        rw [show _ ++ [_] = ((T ++ [(⟨r', a1, c1, V'⟩ : RVs)]).map RVs.row) from by rw [List.map_append]; rfl] at o103
        have d_o103_b_5 := obNe ob_143 d3 hb_5.lt
        have dd_o103_hK := obDF ob_143 d5 (fun k hk => (hK.ge k hk).2)
        have dd_o103_o99 := obDD ob_143 (fun k h1 h2 => dd_o99_o6 k h2 h1) (fun k hk => (o99.ge k hk).2)
        have S := S.agrN ag_143 (fun k e => Nat.le_trans (by omega) e.2)
        have hb_5 := hb_5.step ag_143 (fun e => d3 _ e.1 rfl)
        have hK := hK.step ag_143 (fun k hk e => d5 k e.1 hk)
        have o99 := o99.step ag_143 (fun k hk e => (fun k h1 h2 => dd_o99_o6 k h2 h1) k e.1 hk)
        obtain ⟨a_143, c_143, rfl, k_143⟩ := o103.form
        refine RL.ev (.assign rfl) rfl rfl ?_
        refine RL.ev (.assign rfl) rfl rfl ?_
        have hK2 : Ft M' (KW na' fa' A' a1 V' (T ++ [(⟨r', a1, c1, V'⟩ : RVs)])) w_143 := hK.imp (fun u h => ⟨h.1, h.2.1, fun t ht => (List.mem_append.1 ht).elim (h.2.2 t) (fun e => by rw [List.mem_singleton.1 e]; exact h.2.1)⟩)
        have hold2 : ∀ t ∈ T ++ [(⟨r', a1, c1, V'⟩ : RVs)], t.ok A' := (fun t ht => (List.mem_append.1 ht).elim (hold' t) (fun e => by rw [List.mem_singleton.1 e]; exact ⟨hu', ⟨P', hR'⟩, by show V'.length ≤ 200; omega, hc1⟩))
        obtain ⟨T2, hT2⟩ : ∃ T2, T2 = T ++ [(⟨r', a1, c1, V'⟩ : RVs)] := ⟨_, rfl⟩
        have hTl : T2.length ≤ i + 1 := (by rw [hT2, List.length_append, List.length_singleton]; omega)
        rw [← hT2] at o99 o103 hK2 hold2 d_o99_b_5 d_o103_b_5 dd_o99_hK dd_o103_hK dd_o103_o99
        (try rw [← hT2])
        obtain ⟨Wi, Si, hWi⟩ : ∃ W, Sub W w_143 ∧ W = w_143 := ⟨_, Sub.refl _, rfl⟩
        rw [← hWi] at hb_5 hK2 o99 o103
        refine RL.nil (RC.back ?_)
        refine RC.seq ?_
        refine RC.region rfl ?_
        refine RL.ev (.move rfl) rfl rfl ?_
        refine RL.ev (.as (v' := .int .i64 (T2.length : Int)) (.len sl61 rfl) (by rw [hT2, List.length_map])) rfl rfl ?_
        refine RL.ev (.move rfl) rfl rfl ?_
        refine RL.nil (RC.back ?_)
        refine RC.block ?_
        refine RC.loop (α := Nat) (fun j => [(1, .int .i64 p), (5, .pointer (some ⟨b_5, 0, none⟩)), (6, .int .i64 0), (7, .int .u64 r'), (8, .slice a_139 (T2.map RVs.root).length c_139), (9, .slice a_143 (T2.map RVs.row).length c_143), (10, .slice a1 (V'.map fun x => [i6 x]).length c1), (41, .slice pa l.length pc), (42, .int .i64 (l.length : Int)), (43, .int .i64 (i : Int)), (144, .slice a_139 (T2.map RVs.root).length c_139), (145, .int .i64 (T2.length : Int)), (146, .int .i64 (j : Int))]) (fun j w68 => j ≤ T2.length ∧ Sub Wi w68 ∧ Sub w w68) (fun j => T2.length - j) 0 (keep_of (by repeat (first | exact trivial | refine And.intro rfl ?_))) (⟨Nat.zero_le _, Si, S⟩) (fun j w68 hJ => ?_)
        obtain ⟨hj, Si, S⟩ := hJ; have hb_5 := hb_5.sub Si; have hKj := hK2.sub Si; have h7 := o99.sl.1.sub Si; have h6 := o103.sl.1.sub Si
        refine RC.seq ?_
        refine RC.region rfl ?_
        refine RL.ev (.bin rfl rfl rfl) rfl rfl ?_
        refine RL.nil (RC.back ?_)
        refine RC.seq ?_
        refine RC.cond_dec rfl (fun h69 => ?_) (fun h69 => ?_)
        ·
          obtain ⟨t, ht⟩ := getSome (l := T2) (i := j) (by omega)
          have htm := List.mem_of_getElem? ht
          obtain ⟨t1, ⟨t2P, t2⟩, t3, t4⟩ := hold2 t htm
          have htR := row_of hok' t2 t3
          have hm9 := hok'.most
          refine RC.skip (RC.back ?_)
          refine RC.seq ?_
          refine RC.block ?_
          refine RC.seq ?_
          refine RC.region rfl ?_
          refine RL.ev (.move rfl) rfl rfl ?_
          refine RL.ev (.indexS sl61 rfl rfl (by rw [List.length_map]; omega) (h7.is (i := 0) (by simp only [List.length_map]; omega))) rfl rfl ?_
          refine RL.ev (.load1 sh28 rfl (h7.one (enc := fun t : RVs => u6 t.r) (i := j) ht)) rfl rfl ?_
          refine RL.ev (.assign rfl) rfl rfl ?_
          refine RL.ev (.assign rfl) rfl rfl ?_
          refine RL.nil (RC.back ?_)
          refine RC.seq ?_
          refine RC.region rfl ?_
          refine RL.ev (.loadR ([.slice na' A'.nodes.length nc', .slice fa' A'.free.length fc']) sh26 rfl hb_5.row rfl) rfl rfl ?_
          refine RL.ev (.move rfl) rfl rfl ?_
          refine RL.call rfl ok22 (c_row11 A' na' fa' nc' fc' (by omega) t.r t1 w68 hKj.now.1) rfl rfl ?_
          rintro _ w70 ⟨s71, a9, c9, V9, rfl, hs9, _, hl9, hV9⟩
          have S := S.trans s71
          have Si := Si.trans s71
          have hb_5 := hb_5.sub s71
          have hKj := hKj.sub s71
          obtain hV9 := hV9 _ _ htR t2
          obtain ⟨W9, S9, hs9⟩ : ∃ W, Sub W w70 ∧ Sl W a9 1 (V9.map fun x => [i6 x]) := ⟨_, Sub.refl _, hs9⟩
          refine RL.ev (.move rfl) rfl rfl ?_
          refine RL.ev (.extract rfl rfl) rfl rfl ?_
          refine RL.ev (.as (v' := .bool true) (.extract rfl rfl) (by rw [isRowB_yes htR]; rfl)) rfl rfl ?_
          refine RL.ev (.assign rfl) rfl rfl ?_
          refine RL.ev (.assign rfl) rfl rfl ?_
          refine RL.nil (RC.back ?_)
          refine RC.seq ?_
          refine RC.region rfl ?_
          refine RL.ev (.move rfl) rfl rfl ?_
          refine RL.ev (.not rfl) rfl rfl ?_
          refine RL.ev (.move rfl) rfl rfl ?_
          refine RL.ev (.move rfl) rfl rfl ?_
          refine RL.ev (.move rfl) rfl rfl ?_
          refine RL.ev (.move rfl) rfl rfl ?_
          refine RL.ev (.indexS sl62 rfl rfl (by rw [List.length_map]; omega) (h6.is (i := 0) (by simp only [List.length_map]; omega))) rfl rfl ?_
          refine RL.ev (.load1 sh22 rfl ((o103.sl.1.sub Si).one (enc := fun t : RVs => .slice t.a (t.l.map fun x => [i6 x]).length t.c) (i := j) ht)) rfl rfl ?_
          refine RL.call rfl ok14 (c_same11y V9 t.l hV9 a9 t.a c9 t.c _ _ (List.length_map _) (List.length_map _) w70 (hs9.sub S9) (hKj.now.2.2 t htm) (by omega)) rfl rfl ?_
          rintro _ w72 ⟨rfl, s73⟩
          have S := S.trans s73
          have Si := Si.trans s73
          have hb_5 := hb_5.sub s73
          have hKj := hKj.sub s73
          have S9 := S9.trans s73
          refine RL.ev (.not rfl) rfl rfl ?_
          refine RL.ev (.pick_f rfl rfl) rfl rfl ?_
          refine RL.nil (RC.back ?_)
          refine RC.cond_f rfl ?_
          refine RC.skip (RC.back ?_)
          refine RC.region rfl ?_
          refine RL.ev (.as (.bin rfl rfl rfl) (wi64 (y := ((j + 1 : Nat) : Int)) (by omega) (by omega))) rfl rfl ?_
          refine RL.ev (.move rfl) rfl rfl ?_
          exact RL.nil (fun a ka => ⟨j + 1, ⟨by omega, Si, S⟩, by omega, ka.keep (keep_of (by repeat (first | exact trivial | refine And.intro rfl ?_)))⟩)
        ·
          refine RC.exit rfl (RC.back ?_)
          refine RC.region rfl ?_
          refine RL.ev (.as (.bin rfl rfl rfl) (wi64 (y := ((i + 1 : Nat) : Int)) (by omega) (by omega))) rfl rfl ?_
          refine RL.ev (.move rfl) rfl rfl ?_
          exact RL.nil (fun a ka => ⟨(i + 1, (A', na', fa', nc', fc'), r', M', (a1, c1, V'), (a_139, c_139), (a_143, c_143), T2), ⟨⟨by omega, hLi', hTl, by omega⟩, ⟨hb_5, hKj, o99.sub Si, o103.sub Si, d1, d_o99_b_5, d_o103_b_5, dd_o99_hK, dd_o103_hK, fun k h1 h2 => dd_o103_o99 k h2 h1, S, hu', hok', ⟨P', hR'⟩, hnc', hfc', hc1, hold2⟩⟩, by omega, ka.keep (keep_of (by repeat (first | exact trivial | refine And.intro rfl ?_)))⟩)
  ·
    refine RC.exit rfl (RC.back ?_)
    refine RC.seq ?_
    refine RC.seq ?_
    refine RC.region rfl ?_
    refine RL.ev (.field0 fo26_1 rfl) rfl rfl ?_
    refine RL.ev (.load1 sh24 rfl (hb_5.cell rfl)) rfl rfl ?_
    refine RL.ev (.len sl24 rfl) rfl rfl ?_
    refine RL.ev (.bin rfl rfl rfl) rfl rfl ?_
    refine RL.nil (RC.back ?_)
    refine RC.cond_dec rfl (fun h74 => ?_) (fun h74 => ?_)
    ·
      have h173 := h74
      refine RC.seq ?_
      refine RC.region rfl ?_
      refine RL.call rfl ok13 (c_alive11 w4) rfl rfl ?_
      rintro _ w75 ⟨rfl, s76⟩
      have S := S.trans s76
      have hb_5 := hb_5.sub s76
      have hK := hK.sub s76
      have o7 := o7.sub s76
      have o6 := o6.sub s76
      refine RL.ev (.move rfl) rfl rfl ?_
      refine RL.ev (.move rfl) rfl rfl ?_
      refine RL.ev (.as (v' := .bool true) (.bin rfl rfl rfl) (congrArg Value.bool (decide_eq_true (rfl)))) rfl rfl ?_
      refine RL.ev (.pick_t rfl rfl) rfl rfl ?_
      refine RL.ev (.assign rfl) rfl rfl ?_
      refine RL.nil (RC.back ?_)
      refine RC.done (rs := [.tmp 4]) (vs := [_]) rfl rfl ⟨rfl, trivial⟩ ?_
      -- end 5
      exact ⟨rfl, S⟩
    ·
      have h173 : 450 ≤ A.free.length := (by omega)
      have nmp := norm_mod p ((V.length + 1 : Nat) : Int) (by omega)
      obtain ⟨k, hk⟩ := Int.eq_ofNat_of_zero_le (Int.emod_nonneg p (show ((V.length + 1 : Nat) : Int) ≠ 0 by omega))
      have hkn : k < V.length + 1 := (by have := Int.emod_lt_of_pos p (show 0 < ((V.length + 1 : Nat) : Int) by omega); omega)
      obtain ⟨W5, S5, hWK⟩ : ∃ W, Sub W w4 ∧ KW na fa A ra V T W := ⟨_, Sub.refl _, hK.now⟩
      have hG5 := Ft.of_sub fun u s => hWK.1.sub s
      refine RC.skip (RC.back ?_)
      refine RC.seq ?_
      refine RC.region rfl ?_
      refine RL.ev (.move rfl) rfl rfl ?_
      refine RL.ev (.move rfl) rfl rfl ?_
      refine RL.ev (.as (v' := .int .i64 (V.length : Int)) (.len sl22 rfl) (by rw [List.length_map])) rfl rfl ?_
      refine RL.ev (.as (.bin rfl rfl rfl) (wi64 (y := ((V.length + 1 : Nat) : Int)) (by omega) (by omega))) rfl rfl ?_
      refine RL.ev (.rem rfl rfl (by omega)) rfl rfl ?_
      refine RL.ev (.move rfl) rfl rfl ?_
      refine RL.ev (.as (v' := .int .i64 (V.length : Int)) (.len sl22 rfl) (by rw [List.length_map])) rfl rfl ?_
      refine RL.ev (.as (.bin rfl rfl rfl) (wi64 (y := p.tmod ((V.length + 1 : Nat) : Int) + V.length) (by rfl) (by omega))) rfl rfl ?_
      refine RL.ev (.as (.bin rfl rfl rfl) (wi64 (y := p.tmod ((V.length + 1 : Nat) : Int) + ((V.length + 1 : Nat) : Int)) (by omega) (by omega))) rfl rfl ?_
      refine RL.ev (.move rfl) rfl rfl ?_
      refine RL.ev (.as (v' := .int .i64 (V.length : Int)) (.len sl22 rfl) (by rw [List.length_map])) rfl rfl ?_
      refine RL.ev (.as (.bin rfl rfl rfl) (wi64 (y := ((V.length + 1 : Nat) : Int)) (by omega) (by omega))) rfl rfl ?_
      refine RL.ev (.as (v' := .int .i64 (k : Int)) (.rem rfl rfl (by omega)) (by rw [nmp.2.2, hk])) rfl rfl ?_
      refine RL.ev (.assign rfl) rfl rfl ?_
      refine RL.nil (RC.back ?_)
      refine RC.seq ?_
      refine RC.region rfl ?_
      refine RL.ev (.loadR ([.slice na A.nodes.length nc, .slice fa A.free.length fc]) sh26 rfl hb_5.row rfl) rfl rfl ?_
      refine RL.ev (.move rfl) rfl rfl ?_
      refine RL.ev (.move rfl) rfl rfl ?_
      refine RL.call rfl ok19 (c_dcut A na fa nc fc hnc hfc r (k : Int) hu (by unfold I64; omega) _ w4 (hG5.sub S5)) rfl rfl ?_
      rintro _ w77 ⟨s78, na6, fa6, nc6, fc6, B6, r6, r7, e6, M6, rfl, hu6, hu7, hn6, hf6, hF6, _, _, _, hp6⟩
      have S := S.trans s78
      have hb_5 := hb_5.sub s78
      have S5 := S5.trans s78
      obtain ⟨rfl, hE6, hok6, hf6', M6', N6, hR6, hR7, hdj⟩ := cut_good hp6 hok hR (by omega) (by omega) ⟨by omega, by omega⟩
      rw [Int.toNat_natCast] at hR6 hR7
      have hl6 : (V.take k).length + (V.drop k).length = V.length := (by rw [List.length_take, List.length_drop]; omega)
      obtain ⟨W6, S6, hA6⟩ : ∃ W, Sub W w77 ∧ ArR W na6 fa6 B6 := ⟨_, Sub.refl _, hF6.now⟩
      have hG6 := Ft.of_sub fun u s => hA6.sub s
      refine RL.ev (.move rfl) rfl rfl ?_
      refine RL.ev (.extract rfl rfl) rfl rfl ?_
      refine RL.ev (.extract rfl rfl) rfl rfl ?_
      refine RL.ev (.extract rfl rfl) rfl rfl ?_
      refine RL.ev (.extract rfl rfl) rfl rfl ?_
      refine RL.alloc ze26 rfl rfl (fun b_27 w_27 e_27 z_27 hb_27 s_27 => ?_)
      have ge_27 := S.le e_27
      have n_5__27 := hb_5.ne e_27
      have S := S.trans s_27
      have hb_5 := hb_5.sub s_27
      have geS5_27 := S5.le e_27
      have S5 := S5.trans s_27
      have geS6_27 := S6.le e_27
      have S6 := S6.trans s_27
      refine RL.store sh26 rfl rfl rfl hb_27 (by exact Nat.le_of_ble_eq_true rfl) (by rfl) rfl (fun w79 z79 hb_27 a79 => ?_)
      have S := S.upd a79 ge_27
      have hb_5 := hb_5.upd a79 n_5__27
      have S5 := S5.upd a79 geS5_27
      have S6 := S6.upd a79 geS6_27
      have hb_27 : Has w79 b_27 ([.slice na6 B6.nodes.length nc6, .slice fa6 B6.free.length fc6]) _ := hb_27.now (by kernel_rfl)
      refine RL.ev (.assign rfl) rfl rfl ?_
      refine RL.ev (.assign rfl) rfl rfl ?_
      refine RL.ev (.assign rfl) rfl rfl ?_
      refine RL.nil (RC.back ?_)
      refine RC.seq ?_
      refine RC.region rfl ?_
      refine RL.ev (.loadR ([.slice na6 B6.nodes.length nc6, .slice fa6 B6.free.length fc6]) sh26 rfl hb_27.row rfl) rfl rfl ?_
      refine RL.ev (.move rfl) rfl rfl ?_
      refine RL.ev (.move rfl) rfl rfl ?_
      refine RL.call rfl ok17 (c_dcon B6 na6 fa6 nc6 fc6 hn6 hf6 r6 r7 hu6 hu7 _ w79 (hG6.sub S6)) rfl rfl ?_
      rintro _ w80 ⟨s81, na8, fa8, nc8, fc8, B8, r8, e8, M8, rfl, hu8, hn8, hf8, hF8, _, hp8⟩
      have S := S.trans s81
      have hb_5 := hb_5.sub s81
      have S5 := S5.trans s81
      have S6 := S6.trans s81
      have hb_27 := hb_27.sub s81
      obtain ⟨rfl, hE8, hok8, _, M8', hR8⟩ := con_good hp8 hok6 hR6 hR7 hdj (by omega) (by omega)
      rw [List.take_append_drop] at hR8
      have hm8 := hok8.most
      obtain ⟨W8, S8, hA8⟩ : ∃ W, Sub W w80 ∧ ArR W na8 fa8 B8 := ⟨_, Sub.refl _, hF8.now⟩
      refine RL.ev (.move rfl) rfl rfl ?_
      refine RL.ev (.extract rfl rfl) rfl rfl ?_
      refine RL.ev (.extract rfl rfl) rfl rfl ?_
      refine RL.ev (.extract rfl rfl) rfl rfl ?_
      refine RL.alloc ze26 rfl rfl (fun b_31 w_31 e_31 z_31 hb_31 s_31 => ?_)
      have ge_31 := S.le e_31
      have n_5__31 := hb_5.ne e_31
      have n_27__31 := hb_27.ne e_31
      have S := S.trans s_31
      have hb_5 := hb_5.sub s_31
      have geS5_31 := S5.le e_31
      have S5 := S5.trans s_31
      have geS6_31 := S6.le e_31
      have S6 := S6.trans s_31
      have hb_27 := hb_27.sub s_31
      have geS8_31 := S8.le e_31
      have S8 := S8.trans s_31
      refine RL.store sh26 rfl rfl rfl hb_31 (by exact Nat.le_of_ble_eq_true rfl) (by rfl) rfl (fun w82 z82 hb_31 a82 => ?_)
      have S := S.upd a82 ge_31
      have hb_5 := hb_5.upd a82 n_5__31
      have S5 := S5.upd a82 geS5_31
      have S6 := S6.upd a82 geS6_31
      have hb_27 := hb_27.upd a82 n_27__31
      have S8 := S8.upd a82 geS8_31
      have hb_31 : Has w82 b_31 ([.slice na8 B8.nodes.length nc8, .slice fa8 B8.free.length fc8]) _ := hb_31.now (by kernel_rfl)
      refine RL.ev (.assign rfl) rfl rfl ?_
      refine RL.ev (.assign rfl) rfl rfl ?_
      refine RL.nil (RC.back ?_)
      refine RC.seq ?_
      refine RC.region rfl ?_
      refine RL.ev (.loadR ([.slice na8 B8.nodes.length nc8, .slice fa8 B8.free.length fc8]) sh26 rfl hb_31.row rfl) rfl rfl ?_
      refine RL.ev (.move rfl) rfl rfl ?_
      refine RL.call rfl ok22 (c_row11 B8 na8 fa8 nc8 fc8 (by omega) r8 hu8 w82 (hA8.sub S8)) rfl rfl ?_
      rintro _ w83 ⟨s84, a9, c9, V9, rfl, hs9, _, hl9, hV9⟩
      have S := S.trans s84
      have hb_5 := hb_5.sub s84
      have S5 := S5.trans s84
      have S6 := S6.trans s84
      have hb_27 := hb_27.sub s84
      have S8 := S8.trans s84
      have hb_31 := hb_31.sub s84
      have htR := row_of hok8 hR8 (by omega)
      obtain hV9 := hV9 _ _ htR hR8
      obtain ⟨W9, S9, hs9⟩ : ∃ W, Sub W w83 ∧ Sl W a9 1 (V9.map fun x => [i6 x]) := ⟨_, Sub.refl _, hs9⟩
      refine RL.ev (.move rfl) rfl rfl ?_
      refine RL.ev (.extract rfl rfl) rfl rfl ?_
      refine RL.ev (.as (v' := .bool true) (.extract rfl rfl) (by rw [isRowB_yes htR]; rfl)) rfl rfl ?_
      refine RL.ev (.assign rfl) rfl rfl ?_
      refine RL.ev (.assign rfl) rfl rfl ?_
      refine RL.nil (RC.back ?_)
      refine RC.seq ?_
      refine RC.region rfl ?_
      refine RL.call rfl ok13 (c_alive11 w83) rfl rfl ?_
      rintro _ w85 ⟨rfl, s86⟩
      have S := S.trans s86
      have hb_5 := hb_5.sub s86
      have S5 := S5.trans s86
      have S6 := S6.trans s86
      have hb_27 := hb_27.sub s86
      have S8 := S8.trans s86
      have hb_31 := hb_31.sub s86
      have S9 := S9.trans s86
      refine RL.ev (.move rfl) rfl rfl ?_
      refine RL.ev (.move rfl) rfl rfl ?_
      refine RL.ev (.as (v' := .bool true) (.bin rfl rfl rfl) (congrArg Value.bool (decide_eq_true (rfl)))) rfl rfl ?_
      refine RL.ev (.pick_t rfl rfl) rfl rfl ?_
      refine RL.ev (.move rfl) rfl rfl ?_
      refine RL.ev (.move rfl) rfl rfl ?_
      refine RL.ev (.as (v' := .bool true) (.bin rfl rfl rfl) (congrArg Value.bool (decide_eq_true (rfl)))) rfl rfl ?_
      refine RL.ev (.pick_t rfl rfl) rfl rfl ?_
      refine RL.ev (.move rfl) rfl rfl ?_
      refine RL.ev (.move rfl) rfl rfl ?_
      refine RL.ev (.as (v' := .bool true) (.bin rfl rfl rfl) (congrArg Value.bool (decide_eq_true (rfl)))) rfl rfl ?_
      refine RL.ev (.pick_t rfl rfl) rfl rfl ?_
      refine RL.ev (.move rfl) rfl rfl ?_
      refine RL.ev (.move rfl) rfl rfl ?_
      refine RL.ev (.pick_t rfl rfl) rfl rfl ?_
      refine RL.ev (.move rfl) rfl rfl ?_
      refine RL.ev (.move rfl) rfl rfl ?_
      refine RL.ev (.move rfl) rfl rfl ?_
      refine RL.call rfl ok14 (c_same11y V9 V hV9 a9 ra c9 rc _ _ (List.length_map _) (List.length_map _) w85 (hs9.sub S9) (hWK.2.1.sub S5) (by omega)) rfl rfl ?_
      rintro _ w87 ⟨rfl, s88⟩
      have S := S.trans s88
      have hb_5 := hb_5.sub s88
      have S5 := S5.trans s88
      have S6 := S6.trans s88
      have hb_27 := hb_27.sub s88
      have S8 := S8.trans s88
      have hb_31 := hb_31.sub s88
      have S9 := S9.trans s88
      refine RL.ev (.pick_t rfl rfl) rfl rfl ?_
      refine RL.ev (.assign rfl) rfl rfl ?_
      refine RL.nil (RC.back ?_)
      refine RC.done (rs := [.tmp 4]) (vs := [_]) rfl rfl ⟨rfl, trivial⟩ ?_
      -- end 6
      exact ⟨rfl, S⟩
end Go.Proofs.Ytefakjhfcgjhgaa
