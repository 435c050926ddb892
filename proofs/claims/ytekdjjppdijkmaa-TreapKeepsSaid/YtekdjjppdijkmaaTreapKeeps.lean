/-
  The statement TreapKeeps.
-/
import Derived.Test.YtekdjjppdijkmaaTreapMakes
set_option linter.unusedVariables false
set_option linter.unusedSimpArgs false
namespace Go.Proofs.Ytekdjjppdijkmaa
open Go Go.XL

theorem owNw {w : World} {e : TypeId} {sz b : Nat} {v : Value} {rows : List (List Value)} {w' : World} (h : Ows w.heap.size w' e sz v rows) (hb : b < w.heap.size) : ∀ k, ob v = some k → k ≠ b := fun k hk e => by have := (h.ge k hk).1; omega
theorem _root_.Go.XL.Ows.ft {base e sz v rows} {w : World} (h : Ows base w e sz v rows) : Ft (fun k => ob v = some k) (fun u => Ows base u e sz v rows) w :=
  ⟨fun k hk => (h.ge k hk).2, fun u a => h.step a (fun k hk hn => hn hk)⟩
theorem obNil {k : Nat} {p : Prop} (h : ob (.slice none 0 0) = some k) : p := by simp [ob, Value.ownBlock] at h
theorem bneIff {p q : Prop} [Decidable p] [Decidable q] (h : p ↔ q) : (!(decide p == decide q)) = false := by cases hp : decide p <;> cases hq : decide q <;> simp_all

structure ActP where
  del : Bool
  k : Int
  v : Int
def ActP.cells (z : ActP) : List Value := [.bool z.del, .int .i64 z.k, .int .i64 z.v]
def ActP.ok (z : ActP) : Prop := I64 z.k ∧ I64 z.v
theorem fit_actP (r : List Value) (h : fitsR [none, some .i64, some .i64] r) : ∃ x : ActP, r = x.cells ∧ x.ok := by
  obtain ⟨_, _, rfl, h0, h⟩ := fitsR_cons h
  obtain ⟨_, _, rfl, h1, h⟩ := fitsR_cons h
  obtain ⟨_, _, rfl, h2, h⟩ := fitsR_cons h
  obtain rfl := fitsR_nil h
  obtain ⟨b, rfl⟩ := fitR_bool h0
  obtain ⟨a1, rfl, g1⟩ := fitI h1
  obtain ⟨a2, rfl, g2⟩ := fitI h2
  exact ⟨⟨b, a1, a2⟩, rfl, g1, g2⟩
section
variable {H : Type} {enc : TypeId × Value → H} {W : World} {base : Nat} {sp : Nat → Bool} {held : Bool} {v : Value} {d : DataW H} {ps : List MemPlace} {r : Reach} {b : Nat}
set_option maxRecDepth 100000 in
theorem open_acts6 (hok : Value.okWide Try.prog W r b 58 v) (h : DataW.Trod enc Try.prog W base sp held 58 v d ps) : ∃ (a : Option Addr) (l : List ActP) (c : Nat), v = .slice a l.length c ∧ l.length ≤ c ∧ c ≤ maxLen ∧ Sl W a 3 (l.map ActP.cells) ∧ ∀ x ∈ l, x.ok :=
  open_sl ActP.cells ActP.ok sl58 fk62 rfl fit_actP hok h
end

/-- a version: its root, and its row of keys -/
structure RT where
  r : Int
  a : Option Addr
  c : Nat
  l : List It
def RT.root (t : RT) : List Value := [u6 t.r]
def RT.row (t : RT) : List Value := [.slice t.a (t.l.map It.cells).length t.c]
def RT.ok (A : Ar) (t : RT) : Prop := U64 t.r ∧ IsT A t.r t.l ∧ t.l.length ≤ 200 ∧ t.l.length ≤ t.c
theorem RT.ok.ext {A B : Ar} {t : RT} (h : t.ok A) (e : Ext A B) : t.ok B := ⟨h.1, e.isT h.2.1, h.2.2⟩
/-- what is read: the arena, the row, all older rows -/
def KI (na fa : Option Addr) (A : Ar) (ra : Option Addr) (L : List It) (T : List RT) (u : World) : Prop := ArR u na fa A ∧ Sl u ra 2 (L.map It.cells) ∧ ∀ t ∈ T, Sl u t.a 2 (t.l.map It.cells)
structure KS (b3 : Nat) (w W : World) (M : Nat → Prop) (A : Ar) (na fa : Option Addr) (nc fc : Nat) (r : Int) (ra : Option Addr) (rc : Nat) (L : List It) (T : List RT) (ta : Option Addr) (tc : Nat) (va : Option Addr) (vc : Nat) : Prop where
  hb : Has W b3 [.slice na A.nodes.length nc, .slice fa A.free.length fc] 28
  hK : Ft M (KI na fa A ra L T) W
  o7 : Ows w.heap.size W 30 1 (.slice ta (T.map RT.root).length tc) (T.map RT.root)
  o6 : Ows w.heap.size W 23 1 (.slice va (T.map RT.row).length vc) (T.map RT.row)
  d1 : ∀ k, M k → k ≠ b3
  d2 : ∀ k, ob (.slice ta (T.map RT.root).length tc) = some k → k ≠ b3
  d3 : ∀ k, ob (.slice va (T.map RT.row).length vc) = some k → k ≠ b3
  d4 : ∀ k, ob (.slice ta (T.map RT.root).length tc) = some k → M k → False
  d5 : ∀ k, ob (.slice va (T.map RT.row).length vc) = some k → M k → False
  d6 : ∀ k, ob (.slice ta (T.map RT.root).length tc) = some k → ob (.slice va (T.map RT.row).length vc) = some k → False
  S : Sub w W
  u : U64 r
  ok : AOk A
  isT : IsT A r L
  nc : A.nodes.length ≤ nc
  fc : A.free.length ≤ fc
  rc : L.length ≤ rc
  old : ∀ t ∈ T, t.ok A
set_option maxHeartbeats 4000000 in
theorem law_TreapKeeps (w : World) (l : List ActP) (pa : Option Addr) (pc : Nat) (hlc : l.length ≤ pc) (hcm : pc ≤ maxLen) (hs : Sl w pa 3 (l.map ActP.cells)) (hli : ∀ x ∈ l, x.ok) :
    FC Try.prog 8 [.slice pa l.length pc] w (Val (.bool true) w) := by
  have hll : l.length ≤ 9223372036854775807 := Nat.le_trans hlc (Nat.le_trans hcm (by decide))
  refine FC.intro Try.func8 rfl Try.ntmps8 rfl ?_
  have S := Sub.refl w
  refine RC.seq ?_
  refine RC.region rfl ?_
  refine RL.ev (.assign rfl) rfl rfl ?_
  refine RL.nil (RC.back ?_)
  refine RC.seq ?_
  refine RC.region rfl ?_
  refine RL.call rfl ok26 (c_aNew 512 ⟨by decide, by decide⟩ w) rfl rfl ?_
  rintro _ w1 ⟨na0, fa0, nc0, fc0, rfl, hnc0, hfc0, hn00, s2⟩
  have hA := Ft.new hn00 s2
  have S := S.trans s2
  refine RL.ev (.move rfl) rfl rfl ?_
  refine RL.ev (.extract rfl rfl) rfl rfl ?_
  refine RL.ev (.extract rfl rfl) rfl rfl ?_
  refine RL.alloc ze28 rfl rfl (fun b_3 w_3 e_3 z_3 hb_3 s_3 => ?_)
  have ge_3 := S.le e_3
  have d_hA_b_3 := hA.neNew e_3
  have S := S.trans s_3
  have hA := hA.sub s_3
  refine RL.store sh28 rfl rfl rfl hb_3 (by exact Nat.le_of_ble_eq_true rfl) (by rfl) rfl (fun w3 z3 hb_3 a3 => ?_)
  have S := S.upd a3 ge_3
  have hA := hA.updD a3 d_hA_b_3
  have hb_3 : Has w3 b_3 ([.slice na0 (newA 512).nodes.length nc0, .slice fa0 (newA 512).free.length fc0]) _ := hb_3.now (by kernel_rfl)
  refine RL.ev (.assign rfl) rfl rfl ?_
  refine RL.nil (RC.back ?_)
  refine RC.seq ?_
  refine RC.region rfl ?_
  refine RL.ev (.assign rfl) rfl rfl ?_
  refine RL.nil (RC.back ?_)
  refine RC.seq ?_
  refine RC.region rfl ?_
  refine RL.ev (.assign rfl) rfl rfl ?_
  refine RL.nil (RC.back ?_)
  refine RC.seq ?_
  refine RC.region rfl ?_
  refine RL.ev (.assign rfl) rfl rfl ?_
  refine RL.nil (RC.back ?_)
  refine RC.seq ?_
  refine RC.region rfl ?_
  refine RL.buildSlice0 sl23 rfl rfl (fun b_24 w_24 e_24 z_24 hb_24 s_24 => ?_)
  have ge_24 := S.le e_24
  have n_3__24 := hb_3.ne e_24
  have d_hA_b_24 := hA.neNew e_24
  have S := S.trans s_24
  have hA := hA.sub s_24
  have hb_3 := hb_3.sub s_24
  refine RL.ev (.assign rfl) rfl rfl ?_
  refine RL.nil (RC.back ?_)
  refine RC.seq ?_
  refine RC.seq ?_
  refine RC.region rfl ?_
  refine RL.ev (.move rfl) rfl rfl ?_
  refine RL.ev (.len sl58 rfl) rfl rfl ?_
  refine RL.ev (.move rfl) rfl rfl ?_
  refine RL.nil (RC.back ?_)
  refine RC.block ?_
  refine RC.loop (α := Nat × (Ar × Option Addr × Option Addr × Nat × Nat) × Int × (Nat → Prop) × (Option Addr × Nat × List It) × (Option Addr × Nat) × (Option Addr × Nat) × List RT) (fun x => [(3, .pointer (some ⟨b_3, 0, none⟩)), (4, .int .i64 0), (5, .int .u64 x.2.2.1), (6, .slice x.2.2.2.2.2.2.1.1 (x.2.2.2.2.2.2.2.map RT.row).length x.2.2.2.2.2.2.1.2), (7, .slice x.2.2.2.2.2.1.1 (x.2.2.2.2.2.2.2.map RT.root).length x.2.2.2.2.2.1.2), (8, .slice x.2.2.2.2.1.1 (x.2.2.2.2.1.2.2.map It.cells).length x.2.2.2.2.1.2.1), (25, .slice pa l.length pc), (26, .int .i64 (l.length : Int)), (27, .int .i64 (x.1 : Int))]) (fun x w4 => (x.1 ≤ l.length ∧ x.2.2.2.2.1.2.2.length ≤ x.1 ∧ x.2.2.2.2.2.2.2.length ≤ x.1) ∧ KS b_3 w w4 x.2.2.2.1 x.2.1.1 x.2.1.2.1 x.2.1.2.2.1 x.2.1.2.2.2.1 x.2.1.2.2.2.2 x.2.2.1 x.2.2.2.2.1.1 x.2.2.2.2.1.2.1 x.2.2.2.2.1.2.2 x.2.2.2.2.2.2.2 x.2.2.2.2.2.1.1 x.2.2.2.2.2.1.2 x.2.2.2.2.2.2.1.1 x.2.2.2.2.2.2.1.2) (fun x => l.length - x.1) (0, (newA 512, na0, fa0, nc0, fc0), 0, _, (some ⟨b_24, 0, none⟩, 0, []), (none, 0), (none, 0), []) (keep_of (by repeat (first | exact trivial | refine And.intro rfl ?_))) (⟨⟨Nat.zero_le _, Nat.zero_le _, Nat.zero_le _⟩, ⟨hb_3, hA.imp fun u h => ⟨h, Sl.nil _ _ _, fun t ht => by cases ht⟩, Ows.nil _ _ _ _, Ows.nil _ _ _ _, d_hA_b_3, fun k hk => obNil hk, fun k hk => obNil hk, fun k hk => obNil hk, fun k hk => obNil hk, fun k hk => obNil hk, S, u0, newA_ok ⟨by decide, by decide⟩, .nil, hnc0, hfc0, Nat.le_refl _, fun t ht => by cases ht⟩⟩) (fun x w4 hJ => ?_)
  obtain ⟨i, ⟨A, na, fa, nc, fc⟩, r, M, ⟨ra, rc, L⟩, ⟨ta, tc⟩, ⟨va, vc⟩, T⟩ := x; obtain ⟨⟨hi, hLi, hTi⟩, ⟨hb_3, hK, o7, o6, d1, d2, d3, d4, d5, d6, S, hu, hok, hT, hnc, hfc, hrc, hold⟩⟩ := hJ; simp only [] at hi hLi hTi hb_3 hK o7 o6 d1 d2 d3 d4 d5 d6 hu hok hT hnc hfc hrc hold
  refine RC.seq ?_
  refine RC.region rfl ?_
  refine RL.ev (.bin rfl rfl rfl) rfl rfl ?_
  refine RL.nil (RC.back ?_)
  refine RC.seq ?_
  refine RC.cond_dec rfl (fun h5 => ?_) (fun h5 => ?_)
  ·
    obtain ⟨x, hx⟩ := getSome (l := l) (i := i) (by omega)
    obtain ⟨hxk, hxv⟩ := hli x (List.mem_of_getElem? hx)
    have hxk : -9223372036854775808 ≤ x.k ∧ x.k ≤ 9223372036854775807 := hxk
    have nmx := norm_mod x.k 20 (by decide)
    obtain ⟨kk, hkk⟩ : ∃ kk, kk = x.k % 20 := ⟨_, rfl⟩
    have hkr : 0 ≤ kk ∧ kk < 20 := (by omega)
    have hki : I64 kk := (by unfold I64; omega)
    refine RC.skip (RC.back ?_)
    refine RC.seq ?_
    refine RC.block ?_
    refine RC.seq ?_
    refine RC.region rfl ?_
    refine RL.ev (.move rfl) rfl rfl ?_
    refine RL.ev (.indexS sl58 rfl rfl (by omega) (hs.is (i := 0) (by simp only [List.length_map]; omega))) rfl rfl ?_
    refine RL.ev (.loadR (x.cells) sh62 rfl ((hs.sub S).rowAt (enc := ActP.cells) (i := i) hx) rfl) rfl rfl ?_
    refine RL.alloc ze62 rfl rfl (fun b_10 w_10 e_10 z_10 hb_10 s_10 => ?_)
    have ge_10 := S.le e_10
    have n_3__10 := hb_3.ne e_10
    have d_hK_b_10 := hK.neNew e_10
    have d_o7_b_10 := o7.neNew e_10
    have d_o6_b_10 := o6.neNew e_10
    have S := S.trans s_10
    have hb_3 := hb_3.sub s_10
    have hK := hK.sub s_10
    have o7 := o7.sub s_10
    have o6 := o6.sub s_10
    refine RL.ev (.assign rfl) rfl rfl ?_
    refine RL.store sh62 rfl rfl rfl hb_10 (by exact Nat.le_of_ble_eq_true rfl) (by rfl) rfl (fun w6 z6 hb_10 a6 => ?_)
    have S := S.upd a6 ge_10
    have hb_3 := hb_3.upd a6 n_3__10
    have hK := hK.updD a6 d_hK_b_10
    have o7 := o7.updD a6 d_o7_b_10
    have o6 := o6.updD a6 d_o6_b_10
    have hb_10 : Has w6 b_10 (x.cells) _ := hb_10.now (by kernel_rfl)
    refine RL.nil (RC.back ?_)
    refine RC.seq ?_
    refine RC.seq ?_
    refine RC.region rfl ?_
    refine RL.ev (.move rfl) rfl rfl ?_
    refine RL.ev (.bin rfl rfl rfl) rfl rfl ?_
    refine RL.ev (.move rfl) rfl rfl ?_
    refine RL.split 34 rfl (fun h7 => ?_) (fun h7 => ?_)
    ·
      have h34 := h7
      refine RL.off rfl rfl ?_
      refine RL.off rfl rfl ?_
      refine RL.off rfl rfl ?_
      refine RL.off rfl rfl ?_
      refine RL.ev (.pick_t rfl rfl) rfl rfl ?_
      refine RL.nil (RC.back ?_)
      refine RC.cond_t rfl ?_
      refine RC.exit rfl (RC.back ?_)
      refine RC.seq ?_
      refine RC.region rfl ?_
      refine RL.call rfl ok28 (c_alive6 w6) rfl rfl ?_
      rintro _ w8 ⟨rfl, s9⟩
      have S := S.trans s9
      have hb_3 := hb_3.sub s9
      have hK := hK.sub s9
      have o7 := o7.sub s9
      have o6 := o6.sub s9
      have hb_10 := hb_10.sub s9
      refine RL.ev (.move rfl) rfl rfl ?_
      refine RL.ev (.move rfl) rfl rfl ?_
      refine RL.ev (.as (v' := .bool true) (.bin rfl rfl rfl) (congrArg Value.bool (decide_eq_true (rfl)))) rfl rfl ?_
      refine RL.ev (.pick_t rfl rfl) rfl rfl ?_
      refine RL.ev (.move rfl) rfl rfl ?_
      refine RL.ev (.loadR ([.slice na A.nodes.length nc, .slice fa A.free.length fc]) sh28 rfl hb_3.row rfl) rfl rfl ?_
      refine RL.call rfl ok32 (c_r4Right A na fa nc fc w8 hK.now.1) rfl rfl ?_
      rintro _ w10 ⟨rfl, s11⟩
      have S := S.trans s11
      have hb_3 := hb_3.sub s11
      have hK := hK.sub s11
      have o7 := o7.sub s11
      have o6 := o6.sub s11
      have hb_10 := hb_10.sub s11
      refine RL.ev (.pick_t rfl rfl) rfl rfl ?_
      refine RL.ev (.assign rfl) rfl rfl ?_
      refine RL.nil (RC.back ?_)
      refine RC.done (rs := [.tmp 2]) (vs := [_]) rfl rfl ⟨rfl, trivial⟩ ?_
      -- end 1
      exact ⟨congrArg Value.bool (aokB_yes hok), S⟩
    ·
      have h34 := h7
      refine RL.ev (.field0 fo28_1 rfl) rfl rfl ?_
      refine RL.ev (.load1 sh26 rfl (hb_3.cell rfl)) rfl rfl ?_
      refine RL.ev (.len sl26 rfl) rfl rfl ?_
      refine RL.ev (.bin rfl rfl rfl) rfl rfl ?_
      refine RL.ev (.pick_f rfl rfl) rfl rfl ?_
      refine RL.nil (RC.back ?_)
      refine RC.cond_dec rfl (fun h12 => ?_) (fun h12 => ?_)
      ·
        have h39 := h12
        refine RC.exit rfl (RC.back ?_)
        refine RC.seq ?_
        refine RC.region rfl ?_
        refine RL.call rfl ok28 (c_alive6 w6) rfl rfl ?_
        rintro _ w13 ⟨rfl, s14⟩
        have S := S.trans s14
        have hb_3 := hb_3.sub s14
        have hK := hK.sub s14
        have o7 := o7.sub s14
        have o6 := o6.sub s14
        have hb_10 := hb_10.sub s14
        refine RL.ev (.move rfl) rfl rfl ?_
        refine RL.ev (.move rfl) rfl rfl ?_
        refine RL.ev (.as (v' := .bool true) (.bin rfl rfl rfl) (congrArg Value.bool (decide_eq_true (rfl)))) rfl rfl ?_
        refine RL.ev (.pick_t rfl rfl) rfl rfl ?_
        refine RL.ev (.move rfl) rfl rfl ?_
        refine RL.ev (.loadR ([.slice na A.nodes.length nc, .slice fa A.free.length fc]) sh28 rfl hb_3.row rfl) rfl rfl ?_
        refine RL.call rfl ok32 (c_r4Right A na fa nc fc w13 hK.now.1) rfl rfl ?_
        rintro _ w15 ⟨rfl, s16⟩
        have S := S.trans s16
        have hb_3 := hb_3.sub s16
        have hK := hK.sub s16
        have o7 := o7.sub s16
        have o6 := o6.sub s16
        have hb_10 := hb_10.sub s16
        refine RL.ev (.pick_t rfl rfl) rfl rfl ?_
        refine RL.ev (.assign rfl) rfl rfl ?_
        refine RL.nil (RC.back ?_)
        refine RC.done (rs := [.tmp 2]) (vs := [_]) rfl rfl ⟨rfl, trivial⟩ ?_
        -- end 2
        exact ⟨congrArg Value.bool (aokB_yes hok), S⟩
      ·
        have h39 := h12
        have hM : isMap A r := ⟨hok, _, hT, by omega⟩
        refine RC.skip (RC.back ?_)
        refine RC.seq ?_
        refine RC.region rfl ?_
        refine RL.ev (.field0 fo62_1 rfl) rfl rfl ?_
        refine RL.ev (.load1 sh2 rfl (hb_10.cell rfl)) rfl rfl ?_
        refine RL.ev (.rem rfl rfl (by decide)) rfl rfl ?_
        refine RL.ev (.as (.bin rfl rfl rfl) (wi64 (y := x.k.tmod 20 + 20) (by rfl) (by omega))) rfl rfl ?_
        refine RL.ev (.as (v' := .int .i64 kk) (.rem rfl rfl (by decide)) (by rw [nmx.2.2, hkk])) rfl rfl ?_
        refine RL.ev (.assign rfl) rfl rfl ?_
        refine RL.nil (RC.back ?_)
        refine RC.cutx (α := (Ar × Option Addr × Option Addr × Nat × Nat) × Int × (Nat → Prop) × (Option Addr × Nat × List It)) (fun y_ => [(3, .pointer (some ⟨b_3, 0, none⟩)), (4, .int .i64 0), (5, .int .u64 y_.2.1), (6, .slice va (T.map RT.row).length vc), (7, .slice ta (T.map RT.root).length tc), (8, .slice y_.2.2.2.1 (y_.2.2.2.2.2.map It.cells).length y_.2.2.2.2.1), (25, .slice pa l.length pc), (26, .int .i64 (l.length : Int)), (27, .int .i64 (i : Int))]) (fun y_ w17 => y_.2.2.2.2.2.length ≤ i + 1 ∧ KS b_3 w w17 y_.2.2.1 y_.1.1 y_.1.2.1 y_.1.2.2.1 y_.1.2.2.2.1 y_.1.2.2.2.2 y_.2.1 y_.2.2.2.1 y_.2.2.2.2.1 y_.2.2.2.2.2 T ta tc va vc) ?_ (fun y_ w17 hJ => ?_)
        ·
          refine RC.seq ?_
          refine RC.region rfl ?_
          refine RL.ev (.field0 fo62_0 rfl) rfl rfl ?_
          refine RL.ev (.load1 sh4 rfl (hb_10.cell rfl)) rfl rfl ?_
          refine RL.nil (RC.back ?_)
          refine RC.cond rfl (fun h18 => ?_) (fun h18 => ?_)
          ·
            refine RC.seq ?_
            refine RC.region rfl ?_
            refine RL.ev (.loadR ([.slice na A.nodes.length nc, .slice fa A.free.length fc]) sh28 rfl hb_3.row rfl) rfl rfl ?_
            refine RL.ev (.move rfl) rfl rfl ?_
            refine RL.ev (.move rfl) rfl rfl ?_
            refine RL.call rfl ok30 (c_tdel A na fa nc fc hnc hfc r kk hu hki M w6 (hK.imp fun u h => h.1)) rfl rfl ?_
            rintro _ w19 ⟨s20, na', fa', nc', fc', A', r', e', M', rfl, hu', hnc', hfc', hA', hup, hpp⟩
            have d_hA'_b_3 := upNe hup d1 hb_3.lt
            have dd_o7_hA' := upDD hup d4 (fun k hk => (o7.ge k hk).2)
            have dd_o6_hA' := upDD hup d5 (fun k hk => (o6.ge k hk).2)
            have d_hA'_b_10 := upNe hup d_hK_b_10 hb_10.lt
            have d_hA'_o7 := upDD hup d4 (fun k hk => (o7.ge k hk).2)
            have d_hA'_o6 := upDD hup d5 (fun k hk => (o6.ge k hk).2)
            have hlt3 := hb_3.lt
            have S := S.trans s20
            have hb_3 := hb_3.sub s20
            have hK := hK.sub s20
            have o7 := o7.sub s20
            have o6 := o6.sub s20
            have hb_10 := hb_10.sub s20
            have hD := hpp.2.2 L hM hT
            refine RL.ev (.move rfl) rfl rfl ?_
            refine RL.ev (.extract rfl rfl) rfl rfl ?_
            refine RL.ev (.extract rfl rfl) rfl rfl ?_
            refine RL.ev (.extract rfl rfl) rfl rfl ?_
            refine RL.alloc ze28 rfl rfl (fun b_12 w_12 e_12 z_12 hb_12 s_12 => ?_)
            have ge_12 := S.le e_12
            have n_3__12 := hb_3.ne e_12
            have n_10__12 := hb_10.ne e_12
            have d_hK_b_12 := hK.neNew e_12
            have d_o7_b_12 := o7.neNew e_12
            have d_o6_b_12 := o6.neNew e_12
            have d_hA'_b_12 := hA'.neNew e_12
            have S := S.trans s_12
            have hb_3 := hb_3.sub s_12
            have hK := hK.sub s_12
            have o7 := o7.sub s_12
            have o6 := o6.sub s_12
            have hb_10 := hb_10.sub s_12
            have hA' := hA'.sub s_12
            refine RL.store sh28 rfl rfl rfl hb_12 (by exact Nat.le_of_ble_eq_true rfl) (by rfl) rfl (fun w21 z21 hb_12 a21 => ?_)
            have S := S.upd a21 ge_12
            have hb_3 := hb_3.upd a21 n_3__12
            have hK := hK.updD a21 d_hK_b_12
            have o7 := o7.updD a21 d_o7_b_12
            have o6 := o6.updD a21 d_o6_b_12
            have hb_10 := hb_10.upd a21 n_10__12
            have hA' := hA'.updD a21 d_hA'_b_12
            have hb_12 : Has w21 b_12 ([.slice na' A'.nodes.length nc', .slice fa' A'.free.length fc']) _ := hb_12.now (by kernel_rfl)
            refine RL.ev (.assign rfl) rfl rfl ?_
            refine RL.ev (.assign rfl) rfl rfl ?_
            refine RL.nil (RC.back ?_)
            refine RC.seq ?_
            refine RC.seq ?_
            refine RC.region rfl ?_
            refine RL.ev (.move rfl) rfl rfl ?_
            refine RL.ev (.bin rfl rfl rfl) rfl rfl ?_
            refine RL.ev (.move rfl) rfl rfl ?_
            refine RL.ev (.move rfl) rfl rfl ?_
            refine RL.call rfl ok17 (c_refAt6 L ra rc _ (List.length_map _) kk w21 hK.now.2.1 (by omega)) rfl rfl ?_
            rintro _ w22 ⟨s23, n, rfl, hn⟩
            have S := S.trans s23
            have hb_3 := hb_3.sub s23
            have hK := hK.sub s23
            have o7 := o7.sub s23
            have o6 := o6.sub s23
            have hb_10 := hb_10.sub s23
            have hA' := hA'.sub s23
            have hb_12 := hb_12.sub s23
            have hb : e' = 3 ↔ n < 0 := (by rcases hD with h | h | h; exact ⟨fun _ => (hn.resolve_right (fun g => by obtain ⟨y, hy, hyk⟩ := hasK_iff.1 g.2.1; exact h.1 y hy hyk)).1, fun _ => h.2⟩; omega; exact ⟨fun e => by omega, fun e => by obtain ⟨y, hy, hyk⟩ := h.1; exact absurd hyk (hasK_out (hn.resolve_right (fun g => by omega)).2 y hy)⟩)
            have he03 : e' = 0 ∨ e' = 3 := (by rcases hD with h | h | h; exact .inr h.2; omega; exact .inl h.2.1)
            refine RL.ev (.bin rfl rfl rfl) rfl rfl ?_
            refine RL.ev (.as (v' := .bool false) (.neB bo4 rfl rfl) (congrArg Value.bool (bneIff hb))) rfl rfl ?_
            refine RL.ev (.move rfl) rfl rfl ?_
            refine RL.ev (.move rfl) rfl rfl ?_
            refine RL.ev (.bin rfl rfl rfl) rfl rfl ?_
            refine RL.ev (.move rfl) rfl rfl ?_
            refine RL.split 65 rfl (fun h24 => ?_) (fun h24 => ?_)
            ·
              have h65 := h24
              refine RL.ev (.move rfl) rfl rfl ?_
              refine RL.ev (.as (v' := .bool false) (.bin rfl rfl rfl) (congrArg Value.bool (decide_eq_false (fun h => h (he03.resolve_left h65))))) rfl rfl ?_
              refine RL.ev (.pick_t rfl rfl) rfl rfl ?_
              refine RL.ev (.pick_f rfl rfl) rfl rfl ?_
              refine RL.nil (RC.back ?_)
              refine RC.cond_f rfl ?_
              refine RC.skip (RC.back ?_)
              refine RC.seq ?_
              refine RC.region rfl ?_
              refine RL.ev (.move rfl) rfl rfl ?_
              refine RL.ev (.bin rfl rfl rfl) rfl rfl ?_
              refine RL.nil (RC.back ?_)
              refine RC.cond_dec rfl (fun h25 => ?_) (fun h25 => ?_)
              ·
                have h71 : e' = 0 := h25
                obtain ⟨_, _, hE, hok', hf', hT'⟩ := (hD.resolve_left (fun h => by omega)).resolve_left (fun h => by omega)
                have hdl : (delL L kk).length ≤ L.length := List.length_filter_le _ _
                refine RC.drawD (fun k => k = b_3) [5] w22.heap.size 8 rfl rfl mxo (fun w26 s27 => ?_)
                have hNN : ∀ k, ((k = b_3) ∨ w22.heap.size ≤ k) → w.heap.size ≤ k := fun k e => e.elim (fun e => e ▸ ge_3) (fun e => Nat.le_trans S.size e)
                have ent_S := S.size
                have hN0 : ∀ k, w22.heap.size ≤ k → w.heap.size ≤ k := fun k e => Nat.le_trans S.size e
                have ltD_b_3 := hb_3.lt
                have ltD_hK := fun k hk => (hK.ge k hk).2
                have ltD_o7 := fun k hk => (o7.ge k hk).2
                have ltD_o6 := fun k hk => (o6.ge k hk).2
                have ltD_b_10 := hb_10.lt
                have ltD_hA' := fun k hk => (hA'.ge k hk).2
                have ltD_b_12 := hb_12.lt
                have szD := Nat.le_refl w22.heap.size
                have S := S.trans s27
                have hb_3 := hb_3.sub s27
                have hK := hK.sub s27
                have o7 := o7.sub s27
                have o6 := o6.sub s27
                have hb_10 := hb_10.sub s27
                have hA' := hA'.sub s27
                have hb_12 := hb_12.sub s27
                have szD := Nat.le_trans szD s27.size
                refine RD.take 0 rfl (by kernel_rfl) (by kernel_rfl) (by kernel_rfl) (fun w' s' => .loadR ([.slice na' A'.nodes.length nc', .slice fa' A'.free.length fc']) sh28 rfl (hb_12.step s' (fun e => e.elim (fun e => n_3__12.symm e) (fun e => Nat.not_le.2 ltD_b_12 e))).row rfl) rfl rfl ?_
                refine RD.take 1 rfl (by kernel_rfl) (by kernel_rfl) (by kernel_rfl) (fun w' s' => .move rfl) rfl rfl ?_
                refine RD.take 2 rfl (by kernel_rfl) (by kernel_rfl) (by kernel_rfl) (fun w' s' => .move rfl) rfl rfl ?_
                refine RD.take 3 rfl (by kernel_rfl) (by kernel_rfl) (by kernel_rfl) (fun w' s' => .move rfl) rfl rfl ?_
                refine RD.all [4] (by kernel_rfl) rfl (RDs.cons rfl ?_ (RDs.nil))
                refine RL.call rfl ok31 (c_refDel L ra rc _ (List.length_map _) kk w26 hK.now.2.1 (by omega)) rfl rfl ?_
                rintro _ w28 ⟨a1, c1, rfl, o1, s29⟩
                have q3 := owNw o1 hb_3.lt
                have q7 : ∀ k, ob (.slice ta (T.map RT.root).length tc) = some k → ob (.slice a1 ((delL L kk).map It.cells).length c1) = some k → False := (fun k h1 h2 => by have := (o7.ge k h1).2; have := (o1.ge k h2).1; omega)
                have q6 : ∀ k, ob (.slice va (T.map RT.row).length vc) = some k → ob (.slice a1 ((delL L kk).map It.cells).length c1) = some k → False := (fun k h1 h2 => by have := (o6.ge k h1).2; have := (o1.ge k h2).1; omega)
                have hc1 : (delL L kk).length ≤ c1 := (by obtain ⟨_, c', e, h⟩ := o1.form; cases e; rw [List.length_map] at h; exact h)
                have S := S.trans s29
                have hb_3 := hb_3.sub s29
                have hK := hK.sub s29
                have o7 := o7.sub s29
                have o6 := o6.sub s29
                have hb_10 := hb_10.sub s29
                have hA' := hA'.sub s29
                have hb_12 := hb_12.sub s29
                have szD := Nat.le_trans szD s29.size
                have hK := ((hA'.and hK).and o1.ft).imp (J := KI na' fa' A' a1 (delL L kk) T) (fun u h => ⟨h.1.1, h.2.sl.1, h.1.2.2.2⟩)
                refine RD.back s29.agr ?_
                refine RD.all [5] (by kernel_rfl) rfl (RDs.cons rfl ?_ (RDs.nil))
                refine RL.store sh28 rfl rfl rfl hb_3 (by exact Nat.le_of_ble_eq_true rfl) (by rfl) rfl (fun w30 z30 hb_3 a30 => ?_)
                have S := S.upd a30 ge_3
                have hK := hK.updD a30 (fun k hk => hk.elim (fun hk => hk.elim (d_hA'_b_3 k) (d1 k)) (q3 k))
                have o7 := o7.updD a30 d2
                have o6 := o6.updD a30 d3
                have hb_10 := hb_10.upd a30 n_3__10.symm
                have hb_12 := hb_12.upd a30 n_3__12.symm
                have szD := Nat.le_trans szD a30.size
                have hb_3 : Has w30 b_3 ([.slice na' A'.nodes.length nc', .slice fa' A'.free.length fc']) _ := hb_3.now (by kernel_rfl)
                refine RD.backW rfl (a30.mono fun k _ e => e ▸ (.inl (rfl))) ?_
                refine RD.take 6 rfl (by kernel_rfl) (by kernel_rfl) (by kernel_rfl) (fun w' s' => .assign rfl) rfl rfl ?_
                refine RD.take 7 rfl (by kernel_rfl) (by kernel_rfl) (by kernel_rfl) (fun w' s' => .assign rfl) rfl rfl ?_
                exact RD.done (by kernel_rfl) (fun a ka => ⟨((A', na', fa', nc', fc'), r', _, (a1, c1, delL L kk)), ⟨by show (delL L kk).length ≤ _; omega, ⟨hb_3, hK, o7, o6, (fun k hk => hk.elim (fun hk => hk.elim (d_hA'_b_3 k) (d1 k)) (q3 k)), d2, d3, (fun k h1 hk => hk.elim (fun hk => hk.elim (d_hA'_o7 k h1) (d4 k h1)) (q7 k h1)), (fun k h1 hk => hk.elim (fun hk => hk.elim (d_hA'_o6 k h1) (d5 k h1)) (q6 k h1)), d6, S, hu', hok', hT', hnc', hfc', hc1, fun t ht => (hold t ht).ext hE⟩⟩, ka.keep (keep_of (by repeat (first | exact trivial | refine And.intro rfl ?_)))⟩)
              ·
                have h71 := h25
                exact RC.skip (fun a ka => ⟨((A, na, fa, nc, fc), r, M, (ra, rc, L)), ⟨by show L.length ≤ _; omega, ⟨hb_3, hK, o7, o6, d1, d2, d3, d4, d5, d6, S, hu, hok, hT, hnc, hfc, hrc, hold⟩⟩, ka.keep (keep_of (by repeat (first | exact trivial | refine And.intro rfl ?_)))⟩)
            ·
              have h65 := h24
              refine RL.off rfl rfl ?_
              refine RL.off rfl rfl ?_
              refine RL.ev (.pick_f rfl rfl) rfl rfl ?_
              refine RL.ev (.pick_f rfl rfl) rfl rfl ?_
              refine RL.nil (RC.back ?_)
              refine RC.cond_f rfl ?_
              refine RC.skip (RC.back ?_)
              refine RC.seq ?_
              refine RC.region rfl ?_
              refine RL.ev (.move rfl) rfl rfl ?_
              refine RL.ev (.bin rfl rfl rfl) rfl rfl ?_
              refine RL.nil (RC.back ?_)
              refine RC.cond_dec rfl (fun h31 => ?_) (fun h31 => ?_)
              ·
                have h71 : e' = 0 := h31
                obtain ⟨_, _, hE, hok', hf', hT'⟩ := (hD.resolve_left (fun h => by omega)).resolve_left (fun h => by omega)
                have hdl : (delL L kk).length ≤ L.length := List.length_filter_le _ _
                refine RC.drawD (fun k => k = b_3) [5] w22.heap.size 8 rfl rfl mxo (fun w32 s33 => ?_)
                have hNN : ∀ k, ((k = b_3) ∨ w22.heap.size ≤ k) → w.heap.size ≤ k := fun k e => e.elim (fun e => e ▸ ge_3) (fun e => Nat.le_trans S.size e)
                have ent_S := S.size
                have hN0 : ∀ k, w22.heap.size ≤ k → w.heap.size ≤ k := fun k e => Nat.le_trans S.size e
                have ltD_b_3 := hb_3.lt
                have ltD_hK := fun k hk => (hK.ge k hk).2
                have ltD_o7 := fun k hk => (o7.ge k hk).2
                have ltD_o6 := fun k hk => (o6.ge k hk).2
                have ltD_b_10 := hb_10.lt
                have ltD_hA' := fun k hk => (hA'.ge k hk).2
                have ltD_b_12 := hb_12.lt
                have szD := Nat.le_refl w22.heap.size
                have S := S.trans s33
                have hb_3 := hb_3.sub s33
                have hK := hK.sub s33
                have o7 := o7.sub s33
                have o6 := o6.sub s33
                have hb_10 := hb_10.sub s33
                have hA' := hA'.sub s33
                have hb_12 := hb_12.sub s33
                have szD := Nat.le_trans szD s33.size
                refine RD.take 0 rfl (by kernel_rfl) (by kernel_rfl) (by kernel_rfl) (fun w' s' => .loadR ([.slice na' A'.nodes.length nc', .slice fa' A'.free.length fc']) sh28 rfl (hb_12.step s' (fun e => e.elim (fun e => n_3__12.symm e) (fun e => Nat.not_le.2 ltD_b_12 e))).row rfl) rfl rfl ?_
                refine RD.take 1 rfl (by kernel_rfl) (by kernel_rfl) (by kernel_rfl) (fun w' s' => .move rfl) rfl rfl ?_
                refine RD.take 2 rfl (by kernel_rfl) (by kernel_rfl) (by kernel_rfl) (fun w' s' => .move rfl) rfl rfl ?_
                refine RD.take 3 rfl (by kernel_rfl) (by kernel_rfl) (by kernel_rfl) (fun w' s' => .move rfl) rfl rfl ?_
                refine RD.all [4] (by kernel_rfl) rfl (RDs.cons rfl ?_ (RDs.nil))
                refine RL.call rfl ok31 (c_refDel L ra rc _ (List.length_map _) kk w32 hK.now.2.1 (by omega)) rfl rfl ?_
                rintro _ w34 ⟨a1, c1, rfl, o1, s35⟩
                have q3 := owNw o1 hb_3.lt
                have q7 : ∀ k, ob (.slice ta (T.map RT.root).length tc) = some k → ob (.slice a1 ((delL L kk).map It.cells).length c1) = some k → False := (fun k h1 h2 => by have := (o7.ge k h1).2; have := (o1.ge k h2).1; omega)
                have q6 : ∀ k, ob (.slice va (T.map RT.row).length vc) = some k → ob (.slice a1 ((delL L kk).map It.cells).length c1) = some k → False := (fun k h1 h2 => by have := (o6.ge k h1).2; have := (o1.ge k h2).1; omega)
                have hc1 : (delL L kk).length ≤ c1 := (by obtain ⟨_, c', e, h⟩ := o1.form; cases e; rw [List.length_map] at h; exact h)
                have S := S.trans s35
                have hb_3 := hb_3.sub s35
                have hK := hK.sub s35
                have o7 := o7.sub s35
                have o6 := o6.sub s35
                have hb_10 := hb_10.sub s35
                have hA' := hA'.sub s35
                have hb_12 := hb_12.sub s35
                have szD := Nat.le_trans szD s35.size
                have hK := ((hA'.and hK).and o1.ft).imp (J := KI na' fa' A' a1 (delL L kk) T) (fun u h => ⟨h.1.1, h.2.sl.1, h.1.2.2.2⟩)
                refine RD.back s35.agr ?_
                refine RD.all [5] (by kernel_rfl) rfl (RDs.cons rfl ?_ (RDs.nil))
                refine RL.store sh28 rfl rfl rfl hb_3 (by exact Nat.le_of_ble_eq_true rfl) (by rfl) rfl (fun w36 z36 hb_3 a36 => ?_)
                have S := S.upd a36 ge_3
                have hK := hK.updD a36 (fun k hk => hk.elim (fun hk => hk.elim (d_hA'_b_3 k) (d1 k)) (q3 k))
                have o7 := o7.updD a36 d2
                have o6 := o6.updD a36 d3
                have hb_10 := hb_10.upd a36 n_3__10.symm
                have hb_12 := hb_12.upd a36 n_3__12.symm
                have szD := Nat.le_trans szD a36.size
                have hb_3 : Has w36 b_3 ([.slice na' A'.nodes.length nc', .slice fa' A'.free.length fc']) _ := hb_3.now (by kernel_rfl)
                refine RD.backW rfl (a36.mono fun k _ e => e ▸ (.inl (rfl))) ?_
                refine RD.take 6 rfl (by kernel_rfl) (by kernel_rfl) (by kernel_rfl) (fun w' s' => .assign rfl) rfl rfl ?_
                refine RD.take 7 rfl (by kernel_rfl) (by kernel_rfl) (by kernel_rfl) (fun w' s' => .assign rfl) rfl rfl ?_
                exact RD.done (by kernel_rfl) (fun a ka => ⟨((A', na', fa', nc', fc'), r', _, (a1, c1, delL L kk)), ⟨by show (delL L kk).length ≤ _; omega, ⟨hb_3, hK, o7, o6, (fun k hk => hk.elim (fun hk => hk.elim (d_hA'_b_3 k) (d1 k)) (q3 k)), d2, d3, (fun k h1 hk => hk.elim (fun hk => hk.elim (d_hA'_o7 k h1) (d4 k h1)) (q7 k h1)), (fun k h1 hk => hk.elim (fun hk => hk.elim (d_hA'_o6 k h1) (d5 k h1)) (q6 k h1)), d6, S, hu', hok', hT', hnc', hfc', hc1, fun t ht => (hold t ht).ext hE⟩⟩, ka.keep (keep_of (by repeat (first | exact trivial | refine And.intro rfl ?_)))⟩)
              ·
                have h71 := h31
                exact RC.skip (fun a ka => ⟨((A, na, fa, nc, fc), r, M, (ra, rc, L)), ⟨by show L.length ≤ _; omega, ⟨hb_3, hK, o7, o6, d1, d2, d3, d4, d5, d6, S, hu, hok, hT, hnc, hfc, hrc, hold⟩⟩, ka.keep (keep_of (by repeat (first | exact trivial | refine And.intro rfl ?_)))⟩)
          ·
            refine RC.seq ?_
            refine RC.region rfl ?_
            refine RL.ev (.loadR ([.slice na A.nodes.length nc, .slice fa A.free.length fc]) sh28 rfl hb_3.row rfl) rfl rfl ?_
            refine RL.ev (.move rfl) rfl rfl ?_
            refine RL.ev (.move rfl) rfl rfl ?_
            refine RL.ev (.field0 fo62_2 rfl) rfl rfl ?_
            refine RL.ev (.load1 sh2 rfl (hb_10.cell rfl)) rfl rfl ?_
            refine RL.call rfl ok27 (c_tput A na fa nc fc hnc hfc r kk x.v hu hki hxv M w6 (hK.imp fun u h => h.1)) rfl rfl ?_
            rintro _ w37 ⟨s38, na', fa', nc', fc', A', r', e', M', rfl, hu', hnc', hfc', hA', hup, hpp⟩
            have d_hA'_b_3 := upNe hup d1 hb_3.lt
            have dd_o7_hA' := upDD hup d4 (fun k hk => (o7.ge k hk).2)
            have dd_o6_hA' := upDD hup d5 (fun k hk => (o6.ge k hk).2)
            have d_hA'_b_10 := upNe hup d_hK_b_10 hb_10.lt
            have d_hA'_o7 := upDD hup d4 (fun k hk => (o7.ge k hk).2)
            have d_hA'_o6 := upDD hup d5 (fun k hk => (o6.ge k hk).2)
            have hlt3 := hb_3.lt
            have S := S.trans s38
            have hb_3 := hb_3.sub s38
            have hK := hK.sub s38
            have o7 := o7.sub s38
            have o6 := o6.sub s38
            have hb_10 := hb_10.sub s38
            obtain ⟨rfl, hE, hok', hf', hT', hM'⟩ := hpp.good hM hT (by omega) (by omega) (by omega)
            have hpl := putL_len (key := kk) (v := x.v) hT.srt
            refine RL.ev (.move rfl) rfl rfl ?_
            refine RL.ev (.extract rfl rfl) rfl rfl ?_
            refine RL.ev (.extract rfl rfl) rfl rfl ?_
            refine RL.ev (.extract rfl rfl) rfl rfl ?_
            refine RL.alloc ze28 rfl rfl (fun b_15 w_15 e_15 z_15 hb_15 s_15 => ?_)
            have ge_15 := S.le e_15
            have n_3__15 := hb_3.ne e_15
            have n_10__15 := hb_10.ne e_15
            have d_hK_b_15 := hK.neNew e_15
            have d_o7_b_15 := o7.neNew e_15
            have d_o6_b_15 := o6.neNew e_15
            have d_hA'_b_15 := hA'.neNew e_15
            have S := S.trans s_15
            have hb_3 := hb_3.sub s_15
            have hK := hK.sub s_15
            have o7 := o7.sub s_15
            have o6 := o6.sub s_15
            have hb_10 := hb_10.sub s_15
            have hA' := hA'.sub s_15
            refine RL.store sh28 rfl rfl rfl hb_15 (by exact Nat.le_of_ble_eq_true rfl) (by rfl) rfl (fun w39 z39 hb_15 a39 => ?_)
            have S := S.upd a39 ge_15
            have hb_3 := hb_3.upd a39 n_3__15
            have hK := hK.updD a39 d_hK_b_15
            have o7 := o7.updD a39 d_o7_b_15
            have o6 := o6.updD a39 d_o6_b_15
            have hb_10 := hb_10.upd a39 n_10__15
            have hA' := hA'.updD a39 d_hA'_b_15
            have hb_15 : Has w39 b_15 ([.slice na' A'.nodes.length nc', .slice fa' A'.free.length fc']) _ := hb_15.now (by kernel_rfl)
            refine RL.ev (.assign rfl) rfl rfl ?_
            refine RL.ev (.assign rfl) rfl rfl ?_
            refine RL.nil (RC.back ?_)
            refine RC.seq ?_
            refine RC.seq ?_
            refine RC.region rfl ?_
            refine RL.ev (.move rfl) rfl rfl ?_
            refine RL.ev (.as (v' := .bool false) (.bin rfl rfl rfl) (congrArg Value.bool (decide_eq_false (fun h => h rfl)))) rfl rfl ?_
            refine RL.nil (RC.back ?_)
            refine RC.cond_f rfl ?_
            refine RC.skip (RC.back ?_)
            refine RC.drawD (fun k => k = b_3) [7] w39.heap.size 10 rfl rfl mxo (fun w40 s41 => ?_)
            have hNN : ∀ k, ((k = b_3) ∨ w39.heap.size ≤ k) → w.heap.size ≤ k := fun k e => e.elim (fun e => e ▸ ge_3) (fun e => Nat.le_trans S.size e)
            have ent_S := S.size
            have hN0 : ∀ k, w39.heap.size ≤ k → w.heap.size ≤ k := fun k e => Nat.le_trans S.size e
            have ltD_b_3 := hb_3.lt
            have ltD_hK := fun k hk => (hK.ge k hk).2
            have ltD_o7 := fun k hk => (o7.ge k hk).2
            have ltD_o6 := fun k hk => (o6.ge k hk).2
            have ltD_b_10 := hb_10.lt
            have ltD_hA' := fun k hk => (hA'.ge k hk).2
            have ltD_b_15 := hb_15.lt
            have szD := Nat.le_refl w39.heap.size
            have S := S.trans s41
            have hb_3 := hb_3.sub s41
            have hK := hK.sub s41
            have o7 := o7.sub s41
            have o6 := o6.sub s41
            have hb_10 := hb_10.sub s41
            have hA' := hA'.sub s41
            have hb_15 := hb_15.sub s41
            have szD := Nat.le_trans szD s41.size
            refine RD.take 0 rfl (by kernel_rfl) (by kernel_rfl) (by kernel_rfl) (fun w' s' => .loadR ([.slice na' A'.nodes.length nc', .slice fa' A'.free.length fc']) sh28 rfl (hb_15.step s' (fun e => e.elim (fun e => n_3__15.symm e) (fun e => Nat.not_le.2 ltD_b_15 e))).row rfl) rfl rfl ?_
            refine RD.take 1 rfl (by kernel_rfl) (by kernel_rfl) (by kernel_rfl) (fun w' s' => .move rfl) rfl rfl ?_
            refine RD.take 2 rfl (by kernel_rfl) (by kernel_rfl) (by kernel_rfl) (fun w' s' => .move rfl) rfl rfl ?_
            refine RD.take 3 rfl (by kernel_rfl) (by kernel_rfl) (by kernel_rfl) (fun w' s' => .move rfl) rfl rfl ?_
            refine RD.take 4 rfl (by kernel_rfl) (by kernel_rfl) (by kernel_rfl) (fun w' s' => .field0 fo62_2 rfl) rfl rfl ?_
            refine RD.take 5 rfl (by kernel_rfl) (by kernel_rfl) (by kernel_rfl) (fun w' s' => .load1 sh2 rfl ((hb_10.step s' (fun e => e.elim (fun e => n_3__10.symm e) (fun e => Nat.not_le.2 ltD_b_10 e))).cell rfl)) rfl rfl ?_
            refine RD.all [6] (by kernel_rfl) rfl (RDs.cons rfl ?_ (RDs.nil))
            refine RL.call rfl ok13 (c_refPut L ra rc _ (List.length_map _) kk x.v w40 hK.now.2.1 (by omega)) rfl rfl ?_
            rintro vr w42 ⟨a1, c1, hvr, o1, s43⟩
            rw [putR_putL hT.srt] at hvr o1
            subst hvr
            have q3 := owNw o1 hb_3.lt
            have q7 : ∀ k, ob (.slice ta (T.map RT.root).length tc) = some k → ob (.slice a1 ((putL L kk x.v).map It.cells).length c1) = some k → False := (fun k h1 h2 => by have := (o7.ge k h1).2; have := (o1.ge k h2).1; omega)
            have q6 : ∀ k, ob (.slice va (T.map RT.row).length vc) = some k → ob (.slice a1 ((putL L kk x.v).map It.cells).length c1) = some k → False := (fun k h1 h2 => by have := (o6.ge k h1).2; have := (o1.ge k h2).1; omega)
            have hc1 : (putL L kk x.v).length ≤ c1 := (by obtain ⟨_, c', e, h⟩ := o1.form; cases e; rw [List.length_map] at h; exact h)
            have S := S.trans s43
            have hb_3 := hb_3.sub s43
            have hK := hK.sub s43
            have o7 := o7.sub s43
            have o6 := o6.sub s43
            have hb_10 := hb_10.sub s43
            have hA' := hA'.sub s43
            have hb_15 := hb_15.sub s43
            have szD := Nat.le_trans szD s43.size
            have hK := ((hA'.and hK).and o1.ft).imp (J := KI na' fa' A' a1 (putL L kk x.v) T) (fun u h => ⟨h.1.1, h.2.sl.1, h.1.2.2.2⟩)
            refine RD.back s43.agr ?_
            refine RD.all [7] (by kernel_rfl) rfl (RDs.cons rfl ?_ (RDs.nil))
            refine RL.store sh28 rfl rfl rfl hb_3 (by exact Nat.le_of_ble_eq_true rfl) (by rfl) rfl (fun w44 z44 hb_3 a44 => ?_)
            have S := S.upd a44 ge_3
            have hK := hK.updD a44 (fun k hk => hk.elim (fun hk => hk.elim (d_hA'_b_3 k) (d1 k)) (q3 k))
            have o7 := o7.updD a44 d2
            have o6 := o6.updD a44 d3
            have hb_10 := hb_10.upd a44 n_3__10.symm
            have hb_15 := hb_15.upd a44 n_3__15.symm
            have szD := Nat.le_trans szD a44.size
            have hb_3 : Has w44 b_3 ([.slice na' A'.nodes.length nc', .slice fa' A'.free.length fc']) _ := hb_3.now (by kernel_rfl)
            refine RD.backW rfl (a44.mono fun k _ e => e ▸ (.inl (rfl))) ?_
            refine RD.take 8 rfl (by kernel_rfl) (by kernel_rfl) (by kernel_rfl) (fun w' s' => .assign rfl) rfl rfl ?_
            refine RD.take 9 rfl (by kernel_rfl) (by kernel_rfl) (by kernel_rfl) (fun w' s' => .assign rfl) rfl rfl ?_
            exact RD.done (by kernel_rfl) (fun a ka => ⟨((A', na', fa', nc', fc'), r', _, (a1, c1, putL L kk x.v)), ⟨by show (putL L kk x.v).length ≤ _; omega, ⟨hb_3, hK, o7, o6, (fun k hk => hk.elim (fun hk => hk.elim (d_hA'_b_3 k) (d1 k)) (q3 k)), d2, d3, (fun k h1 hk => hk.elim (fun hk => hk.elim (d_hA'_o7 k h1) (d4 k h1)) (q7 k h1)), (fun k h1 hk => hk.elim (fun hk => hk.elim (d_hA'_o6 k h1) (d5 k h1)) (q6 k h1)), d6, S, hu', hok', hT', hnc', hfc', hc1, fun t ht => (hold t ht).ext hE⟩⟩, ka.keep (keep_of (by repeat (first | exact trivial | refine And.intro rfl ?_)))⟩)
        obtain ⟨⟨A', na', fa', nc', fc'⟩, r', M', ⟨a1, c1, L'⟩⟩ := y_
        obtain ⟨hLi', ⟨hb_3, hK, o7, o6, d1, d2, d3, d4, d5, d6, S, hu', hok', hT', hnc', hfc', hc1, hold'⟩⟩ := hJ
        simp only [] at hLi' hb_3 hK o7 o6 d1 d2 d3 d4 d5 d6 hu' hok' hT' hnc' hfc' hc1 hold'
        have szB := S.size
        refine RC.seq ?_
        refine RC.region rfl ?_
        refine RL.ev (.move rfl) rfl rfl ?_
        refine RL.ev (.move rfl) rfl rfl ?_
        refine RL.buildSlice1 sl60 _ ze30 rfl rfl rfl rfl rfl rfl rfl (fun b_98 w_98 e_98 z_98 hb_98 s_98 => ?_)
        have ge_98 := S.le e_98
        have n_3__98 := hb_3.ne e_98
        have d_hK_b_98 := hK.neNew e_98
        have d_o7_b_98 := o7.neNew e_98
        have d_o6_b_98 := o6.neNew e_98
        have S := S.trans s_98
        have hb_3 := hb_3.sub s_98
        have hK := hK.sub s_98
        have o7 := o7.sub s_98
        have o6 := o6.sub s_98
        have sz_99 := S.size
        have ltb_3_99 := hb_3.lt
        have ltb_98_99 := hb_98.lt
        refine RL.append2 (base := w.heap.size) (rows := T.map RT.root) (news := [_]) sl60 ze30 rfl rfl rfl rfl (.inl o7) (Has.slOne hb_98) rfl (by intro r hr; rw [List.mem_singleton] at hr; subst hr; rfl) rfl (by (try simp only [List.length_map, List.length_nil, List.length_append, List.length_cons]); omega) (by (try simp only [List.length_map, List.length_nil, List.length_append, List.length_cons]); omega) (by omega) rfl rfl (fun v_99 w_99 hc_99 ho_99 ag_99 ob_99 => ?_)
        have o99 := ho_99 (.inl (by simp))
        rw [show _ ++ [_] = ((T ++ [(⟨r', a1, c1, L'⟩ : RT)]).map RT.root) from by rw [List.map_append]; rfl] at o99
        have d_o99_b_3 := obNe ob_99 d2 hb_3.lt
        have dd_o99_hK := obDF ob_99 d4 (fun k hk => (hK.ge k hk).2)
        have dd_o99_o6 := obDD ob_99 d6 (fun k hk => (o6.ge k hk).2)
        have S := S.agrN ag_99 (fun k e => Nat.le_trans (by omega) e.2)
        have hb_3 := hb_3.step ag_99 (fun e => d2 _ e.1 rfl)
        have hK := hK.step ag_99 (fun k hk e => d4 k e.1 hk)
        have o6 := o6.step ag_99 (fun k hk e => d6 k e.1 hk)
        obtain ⟨a_99, c_99, rfl, k_99⟩ := o99.form
        refine RL.ev (.move rfl) rfl rfl ?_
        refine RL.ev (.move rfl) rfl rfl ?_
        refine RL.buildSlice1 sl59 _ ze23 rfl rfl rfl rfl rfl rfl rfl (fun b_102 w_102 e_102 z_102 hb_102 s_102 => ?_)
        have ge_102 := S.le e_102
        have n_3__102 := hb_3.ne e_102
        have d_hK_b_102 := hK.neNew e_102
        have d_o6_b_102 := o6.neNew e_102
        have d_o99_b_102 := o99.neNew e_102
        have S := S.trans s_102
        have hb_3 := hb_3.sub s_102
        have hK := hK.sub s_102
        have o6 := o6.sub s_102
        have o99 := o99.sub s_102
        have sz_103 := S.size
        have ltb_3_103 := hb_3.lt
        have ltb_102_103 := hb_102.lt
        refine RL.append2 (base := w.heap.size) (rows := T.map RT.row) (news := [_]) sl59 ze23 rfl rfl rfl rfl (.inl o6) (Has.slOne hb_102) rfl (by intro r hr; rw [List.mem_singleton] at hr; subst hr; rfl) rfl (by (try simp only [List.length_map, List.length_nil, List.length_append, List.length_cons]); omega) (by (try simp only [List.length_map, List.length_nil, List.length_append, List.length_cons]); omega) (by omega) rfl rfl (fun v_103 w_103 hc_103 ho_103 ag_103 ob_103 => ?_)
        have o103 := ho_103 (.inl (by simp))
        rw [show _ ++ [_] = ((T ++ [(⟨r', a1, c1, L'⟩ : RT)]).map RT.row) from by rw [List.map_append]; rfl] at o103
        have d_o103_b_3 := obNe ob_103 d3 hb_3.lt
        have dd_o103_hK := obDF ob_103 d5 (fun k hk => (hK.ge k hk).2)
        have dd_o103_o99 := obDD ob_103 (fun k h1 h2 => dd_o99_o6 k h2 h1) (fun k hk => (o99.ge k hk).2)
        have S := S.agrN ag_103 (fun k e => Nat.le_trans (by omega) e.2)
        have hb_3 := hb_3.step ag_103 (fun e => d3 _ e.1 rfl)
        have hK := hK.step ag_103 (fun k hk e => d5 k e.1 hk)
        have o99 := o99.step ag_103 (fun k hk e => (fun k h1 h2 => dd_o99_o6 k h2 h1) k e.1 hk)
        obtain ⟨a_103, c_103, rfl, k_103⟩ := o103.form
        refine RL.ev (.assign rfl) rfl rfl ?_
        refine RL.ev (.assign rfl) rfl rfl ?_
        have hK2 : Ft M' (KI na' fa' A' a1 L' (T ++ [(⟨r', a1, c1, L'⟩ : RT)])) w_103 := hK.imp (fun u h => ⟨h.1, h.2.1, fun t ht => (List.mem_append.1 ht).elim (h.2.2 t) (fun e => by rw [List.mem_singleton.1 e]; exact h.2.1)⟩)
        have hold2 : ∀ t ∈ T ++ [(⟨r', a1, c1, L'⟩ : RT)], t.ok A' := (fun t ht => (List.mem_append.1 ht).elim (hold' t) (fun e => by rw [List.mem_singleton.1 e]; exact ⟨hu', hT', by show L'.length ≤ 200; omega, hc1⟩))
        obtain ⟨T2, hT2⟩ : ∃ T2, T2 = T ++ [(⟨r', a1, c1, L'⟩ : RT)] := ⟨_, rfl⟩
        have hTl : T2.length ≤ i + 1 := (by rw [hT2, List.length_append, List.length_singleton]; omega)
        rw [← hT2] at o99 o103 hK2 hold2 d_o99_b_3 d_o103_b_3 dd_o99_hK dd_o103_hK dd_o103_o99
        (try rw [← hT2])
        obtain ⟨Wi, Si, hWi⟩ : ∃ W, Sub W w_103 ∧ W = w_103 := ⟨_, Sub.refl _, rfl⟩
        rw [← hWi] at hb_3 hK2 o99 o103
        refine RL.nil (RC.back ?_)
        refine RC.seq ?_
        refine RC.region rfl ?_
        refine RL.ev (.move rfl) rfl rfl ?_
        refine RL.ev (.as (v' := .int .i64 (T2.length : Int)) (.len sl60 rfl) (by rw [hT2, List.length_map])) rfl rfl ?_
        refine RL.ev (.move rfl) rfl rfl ?_
        refine RL.nil (RC.back ?_)
        refine RC.block ?_
        refine RC.loop (α := Nat) (fun j => [(3, .pointer (some ⟨b_3, 0, none⟩)), (4, .int .i64 0), (5, .int .u64 r'), (6, .slice a_103 (T2.map RT.row).length c_103), (7, .slice a_99 (T2.map RT.root).length c_99), (8, .slice a1 (L'.map It.cells).length c1), (25, .slice pa l.length pc), (26, .int .i64 (l.length : Int)), (27, .int .i64 (i : Int)), (104, .slice a_99 (T2.map RT.root).length c_99), (105, .int .i64 (T2.length : Int)), (106, .int .i64 (j : Int))]) (fun j w45 => j ≤ T2.length ∧ Sub Wi w45 ∧ Sub w w45) (fun j => T2.length - j) 0 (keep_of (by repeat (first | exact trivial | refine And.intro rfl ?_))) (⟨Nat.zero_le _, Si, S⟩) (fun j w45 hJ => ?_)
        obtain ⟨hj, Si, S⟩ := hJ; have hb_3 := hb_3.sub Si; have hKj := hK2.sub Si; have h7 := o99.sl.1.sub Si; have h6 := o103.sl.1.sub Si
        refine RC.seq ?_
        refine RC.region rfl ?_
        refine RL.ev (.bin rfl rfl rfl) rfl rfl ?_
        refine RL.nil (RC.back ?_)
        refine RC.seq ?_
        refine RC.cond_dec rfl (fun h46 => ?_) (fun h46 => ?_)
        ·
          obtain ⟨t, ht⟩ := getSome (l := T2) (i := j) (by omega)
          have htm := List.mem_of_getElem? ht
          obtain ⟨t1, t2, t3, t4⟩ := hold2 t htm
          refine RC.skip (RC.back ?_)
          refine RC.seq ?_
          refine RC.block ?_
          refine RC.seq ?_
          refine RC.region rfl ?_
          refine RL.ev (.move rfl) rfl rfl ?_
          refine RL.ev (.indexS sl60 rfl rfl (by rw [List.length_map]; omega) (h7.is (i := 0) (by simp only [List.length_map]; omega))) rfl rfl ?_
          refine RL.ev (.load1 sh30 rfl (h7.one (enc := fun t : RT => u6 t.r) (i := j) ht)) rfl rfl ?_
          refine RL.ev (.assign rfl) rfl rfl ?_
          refine RL.ev (.assign rfl) rfl rfl ?_
          refine RL.nil (RC.back ?_)
          refine RC.seq ?_
          refine RC.draw rfl mxo (by kernel_rfl) ?_
          refine RQ.ev (.loadR ([.slice na' A'.nodes.length nc', .slice fa' A'.free.length fc']) sh28 rfl hb_3.row rfl) rfl rfl ?_
          refine RQ.ev (.move rfl) rfl rfl ?_
          refine RQ.ev (.move rfl) rfl rfl ?_
          refine RQ.ev (.move rfl) rfl rfl ?_
          refine RQ.ev (.indexS sl59 rfl rfl (by rw [List.length_map]; omega) (h6.is (i := 0) (by simp only [List.length_map]; omega))) rfl rfl ?_
          refine RQ.ev (.load1 sh23 rfl (h6.one (enc := fun t : RT => .slice t.a (t.l.map It.cells).length t.c) (i := j) ht)) rfl rfl ?_
          refine RQ.call rfl ok29 (fun w' s' => c_isYes A' na' fa' nc' fc' hok' t.r t.l t.a t.c _ (List.length_map _) t4 t1 (by omega) t2 w' (hKj.sub s').now.1 ((hKj.sub s').now.2.2 t htm)) rfl rfl ?_
          refine RQ.ev (.not rfl) rfl rfl ?_
          refine RQ.nil (fun w47 s48 => RC.back ?_)
          have S := S.trans s48
          have Si := Si.trans s48
          have hb_3 := hb_3.sub s48
          have hKj := hKj.sub s48
          refine RC.cond_f rfl ?_
          refine RC.skip (RC.back ?_)
          refine RC.region rfl ?_
          refine RL.ev (.as (.bin rfl rfl rfl) (wi64 (y := ((j + 1 : Nat) : Int)) (by omega) (by omega))) rfl rfl ?_
          refine RL.ev (.move rfl) rfl rfl ?_
          exact RL.nil (fun a ka => ⟨j + 1, ⟨by omega, Si, S⟩, by omega, ka.keep (keep_of (by repeat (first | exact trivial | refine And.intro rfl ?_)))⟩)
        ·
          refine RC.exit rfl (RC.back ?_)
          refine RC.region rfl ?_
          refine RL.ev (.as (.bin rfl rfl rfl) (wi64 (y := ((i + 1 : Nat) : Int)) (by omega) (by omega))) rfl rfl ?_
          refine RL.ev (.move rfl) rfl rfl ?_
          exact RL.nil (fun a ka => ⟨(i + 1, (A', na', fa', nc', fc'), r', M', (a1, c1, L'), (a_99, c_99), (a_103, c_103), T2), ⟨⟨by omega, hLi', hTl⟩, ⟨hb_3, hKj, o99.sub Si, o103.sub Si, d1, d_o99_b_3, d_o103_b_3, dd_o99_hK, dd_o103_hK, fun k h1 h2 => dd_o103_o99 k h2 h1, S, hu', hok', hT', hnc', hfc', hc1, hold2⟩⟩, by omega, ka.keep (keep_of (by repeat (first | exact trivial | refine And.intro rfl ?_)))⟩)
  ·
    refine RC.exit rfl (RC.back ?_)
    refine RC.seq ?_
    refine RC.region rfl ?_
    refine RL.call rfl ok28 (c_alive6 w4) rfl rfl ?_
    rintro _ w49 ⟨rfl, s50⟩
    have S := S.trans s50
    have hb_3 := hb_3.sub s50
    have hK := hK.sub s50
    have o7 := o7.sub s50
    have o6 := o6.sub s50
    refine RL.ev (.move rfl) rfl rfl ?_
    refine RL.ev (.move rfl) rfl rfl ?_
    refine RL.ev (.as (v' := .bool true) (.bin rfl rfl rfl) (congrArg Value.bool (decide_eq_true (rfl)))) rfl rfl ?_
    refine RL.ev (.pick_t rfl rfl) rfl rfl ?_
    refine RL.ev (.move rfl) rfl rfl ?_
    refine RL.ev (.loadR ([.slice na A.nodes.length nc, .slice fa A.free.length fc]) sh28 rfl hb_3.row rfl) rfl rfl ?_
    refine RL.call rfl ok32 (c_r4Right A na fa nc fc w49 hK.now.1) rfl rfl ?_
    rintro _ w51 ⟨rfl, s52⟩
    have S := S.trans s52
    have hb_3 := hb_3.sub s52
    have hK := hK.sub s52
    have o7 := o7.sub s52
    have o6 := o6.sub s52
    refine RL.ev (.pick_t rfl rfl) rfl rfl ?_
    refine RL.ev (.assign rfl) rfl rfl ?_
    refine RL.nil (RC.back ?_)
    refine RC.done (rs := [.tmp 2]) (vs := [_]) rfl rfl ⟨rfl, trivial⟩ ?_
    -- end 3
    exact ⟨congrArg Value.bool (aokB_yes hok), S⟩
end Go.Proofs.Ytekdjjppdijkmaa
