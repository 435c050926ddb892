/-
  The forest's methods, walked: split, join, find.
-/
import Derived.Test.YtekdjjppdijkmaaForest
import Derived.Test.YtekdjjppdijkmaaForestQ
set_option linter.unusedVariables false
set_option linter.unusedSimpArgs false
namespace Go.Proofs.Ytekdjjppdijkmaa
open Go Go.XL

theorem Fo.nok {b : Nat} {s : St} {C : Nat → Prop} {u : World} (h : Fo b s C u) : ∀ x ∈ s.1.nodes, x.ok := by
  obtain ⟨_, na, fa, nc, fc, M, _, _, _, h, _⟩ := h
  exact h.now.nok
theorem u0 : U64 0 := by unfold U64; decide
theorem heap_all {k : Int} {jt : It} {L R : List It} (q : beforeK k jt.k = true) (hp : ∀ y ∈ L ++ R, beforeK jt.k y.k = true) : ∀ y ∈ L ++ jt :: R, beforeK k y.k = true := by
  intro y hy
  rcases List.mem_append.1 hy with hy | hy
  · exact befK_trans q (hp y (List.mem_append_left _ hy))
  · rcases List.mem_cons.1 hy with rfl | hy
    · exact q
    · exact befK_trans q (hp y (List.mem_append_right _ hy))
/-- what a method of the forest answers -/
def FoP (bf n : Nat) (s : St) (C : Nat → Prop) (w : World) (J : St → Value → Prop) (v : Value) (w' : World) : Prop :=
  ∃ s' C', Gs n s s' ∧ J s' v ∧ Ft C' (Fo bf s' C') w' ∧ Agr (· = bf) w w' ∧ Up C w C'
theorem c_fsplit (bf : Nat) (key : Int) (hkey : I64 key) (A0 : Ar) (r : Int) (L : List It) (hL : IsT A0 r L) : ∀ (s : St) (C : Nat → Prop) (w : World), Ext A0 s.1 → AOk s.1 → U64 r → L.length ≤ 1000 → Ft C (Fo bf s C) w →
    FC Try.prog 60 [.pointer (some ⟨bf, 0, none⟩), .int .u64 r, .int .i64 key] w (FoP bf L.length s C w fun s' v => ∃ r1 r2, v = .tuple #[.int .u64 r1, .int .u64 r2] ∧ U64 r1 ∧ U64 r2 ∧ (s'.2 = 0 → IsT s'.1 r1 (ltL key L) ∧ IsT s'.1 r2 (geL key L))) := by
  induction hL with
  | nil =>
    intro s C w hE hA hr hl hF
    refine FC.intro Try.func60 rfl Try.ntmps60 rfl ?_
    have G : Agr (· = bf) w w := Agr.refl _ _
    refine RC.seq ?_
    refine RC.region rfl ?_
    refine RL.ev (.assign rfl) rfl rfl ?_
    refine RL.ev (.assign rfl) rfl rfl ?_
    refine RL.nil (RC.back ?_)
    refine RC.seq ?_
    refine RC.seq ?_
    refine RC.region rfl ?_
    refine RL.ev (.move rfl) rfl rfl ?_
    refine RL.ev (.bin rfl rfl rfl) rfl rfl ?_
    refine RL.nil (RC.back ?_)
    refine RC.cond_dec rfl (fun h1 => ?_) (fun h1 => ?_)
    ·
      refine RC.seq ?_
      refine RC.region rfl ?_
      refine RL.ev (.assign rfl) rfl rfl ?_
      refine RL.ev (.assign rfl) rfl rfl ?_
      refine RL.nil (RC.back ?_)
      refine RC.done (rs := [.tmp 6, .tmp 7]) (vs := [_, _]) rfl rfl ⟨rfl, rfl, trivial⟩ ?_
      -- end 1
      exact ⟨s, C, Gs.refl hA, ⟨0, 0, rfl, u0, u0, fun _ => ⟨.nil, .nil⟩⟩, hF, G, Up.refl _ _⟩
    ·
      exact absurd rfl h1
  | @node r g a b it L R t1 t2 t3 t4 t5 ih1 ih2 =>
    intro s C w hE hA hr hl hF
    obtain ⟨x, hx, hxi, hxa, hxb⟩ : ∃ x, getA A0 r = some x ∧ (⟨x.n, x.v⟩ : It) = it ∧ x.k0 = a ∧ x.k1 = b := ⟨_, t1, rfl, rfl, rfl⟩
    have hx := hE.get hx
    have hgx := getN_yes hx
    have hxo := hF.now.nok x (getA_nok hx)
    have hr0 : ¬ r = 0 := fun e => by rw [e, getA_0] at hx; cases hx
    have hCb := hF.now.1
    have hk0 : U64 x.k0 := hxo.kids _ (by simp [Node.kids])
    have hk1 : U64 x.k1 := hxo.kids _ (by simp [Node.kids])
    clear t1
    have hl2 := hl
    rw [List.length_append, List.length_cons] at hl2
    subst hxi hxa hxb
    refine FC.intro Try.func60 rfl Try.ntmps60 rfl ?_
    have G : Agr (· = bf) w w := Agr.refl _ _
    refine RC.seq ?_
    refine RC.region rfl ?_
    refine RL.ev (.assign rfl) rfl rfl ?_
    refine RL.ev (.assign rfl) rfl rfl ?_
    refine RL.nil (RC.back ?_)
    refine RC.seq ?_
    refine RC.seq ?_
    refine RC.region rfl ?_
    refine RL.ev (.move rfl) rfl rfl ?_
    refine RL.ev (.bin rfl rfl rfl) rfl rfl ?_
    refine RL.nil (RC.back ?_)
    refine RC.cond_dec rfl (fun h1 => ?_) (fun h1 => ?_)
    ·
      exact absurd h1 hr0
    ·
      refine RC.skip (RC.back ?_)
      refine RC.seq ?_
      refine RC.region rfl ?_
      refine RL.ev (.move rfl) rfl rfl ?_
      refine RL.ev (.move rfl) rfl rfl ?_
      refine RL.call rfl ok52 ((hgx ▸ c_fget bf s C r hr w hF)) rfl rfl ?_
      rintro _ w2 ⟨rfl, s3⟩
      have G := G.trans s3.agr
      have hF := hF.sub s3
      refine RL.alloc ze78 rfl rfl (fun b_8 w_8 e_8 z_8 hb_8 s_8 => ?_)
      have d_hF_b_8 := hF.neNew e_8
      have geG_8 := agLe G e_8
      have G := G.trans s_8.agr
      have hF := hF.sub s_8
      have n8f : b_8 ≠ bf := fun e => d_hF_b_8 bf hCb e.symm
      refine RL.store sh78 rfl rfl rfl hb_8 (by exact Nat.le_of_ble_eq_true rfl) (by rfl) rfl (fun w4 z4 hb_8 a4 => ?_)
      have G := agNew G a4 geG_8
      have hF := hF.updD a4 d_hF_b_8
      have hb_8 : Has w4 b_8 (x.cells) _ := hb_8.now (by kernel_rfl)
      refine RL.nil (RC.back ?_)
      refine RC.seq ?_
      refine RC.seq ?_
      refine RC.region rfl ?_
      refine RL.ev (.field0 fo78_2 rfl) rfl rfl ?_
      refine RL.ev (.load1 sh2 rfl (hb_8.cell rfl)) rfl rfl ?_
      refine RL.ev (.move rfl) rfl rfl ?_
      refine RL.ev (.bin rfl rfl rfl) rfl rfl ?_
      refine RL.nil (RC.back ?_)
      refine RC.cond_dec rfl (fun h5 => ?_) (fun h5 => ?_)
      ·
        have q : x.n < key := h5
        refine RC.seq ?_
        refine RC.region rfl ?_
        refine RL.ev (.move rfl) rfl rfl ?_
        refine RL.ev (.field0 fo78_5 rfl) rfl rfl ?_
        refine RL.ev (.indexArr ar76 rfl rfl (by omega)) rfl rfl ?_
        refine RL.ev (.load1 sh30 rfl (hb_8.cell rfl)) rfl rfl ?_
        refine RL.ev (.move rfl) rfl rfl ?_
        refine RL.call rfl ok60 (ih2 s C w4 hE hA hk1 (by omega) hF) rfl rfl ?_
        rintro _ w6 ⟨s1, C1, hg, ⟨r1, r2, rfl, hu1, hu2, hi⟩, hF1, ag, up⟩
        have up := up.le G.size
        have G := G.trans ag
        have hb_8 := hb_8.upd ag n8f
        have hF := hF1
        refine RL.ev (.move rfl) rfl rfl ?_
        refine RL.ev (.extract rfl rfl) rfl rfl ?_
        refine RL.ev (.extract rfl rfl) rfl rfl ?_
        refine RL.ev (.assign rfl) rfl rfl ?_
        refine RL.ev (.assign rfl) rfl rfl ?_
        refine RL.nil (RC.back ?_)
        refine RC.seq ?_
        refine RC.region rfl ?_
        refine RL.ev (.move rfl) rfl rfl ?_
        refine RL.ev (.field0 fo78_2 rfl) rfl rfl ?_
        refine RL.ev (.load1 sh2 rfl (hb_8.cell rfl)) rfl rfl ?_
        refine RL.ev (.field0 fo78_3 rfl) rfl rfl ?_
        refine RL.ev (.load1 sh2 rfl (hb_8.cell rfl)) rfl rfl ?_
        refine RL.ev (.field0 fo78_5 rfl) rfl rfl ?_
        refine RL.ev (.indexArr ar76 rfl rfl (by omega)) rfl rfl ?_
        refine RL.ev (.load1 sh30 rfl (hb_8.cell rfl)) rfl rfl ?_
        refine RL.ev (.move rfl) rfl rfl ?_
        refine RL.call rfl ok68 (c_fmake bf s1 C1 x.n x.v x.k0 r1 hxo.n hxo.v hk0 hu1 w6 hF) rfl rfl ?_
        rintro _ w8 ⟨s2, r3, C2, rfl, hm, hF2, ag2, up2⟩
        have up2 := up.trans (up2.le G.size)
        have G := G.trans ag2
        have hb_8 := hb_8.upd ag2 n8f
        have hF := hF2
        refine RL.ev (.move rfl) rfl rfl ?_
        refine RL.ev (.assign rfl) rfl rfl ?_
        refine RL.ev (.assign rfl) rfl rfl ?_
        refine RL.nil (RC.back ?_)
        refine RC.done (rs := [.tmp 6, .tmp 7]) (vs := [_, _]) rfl rfl ⟨rfl, rfl, trivial⟩ ?_
        -- end 1
        obtain ⟨p1, p2⟩ := split_lt (it := ⟨x.n, x.v⟩) hE t2 t4 t5 q hl hg hi hm
        exact ⟨s2, C2, p1, ⟨r3, r2, rfl, hm.u64, hu2, p2⟩, hF, G, up2⟩
      ·
        have q : ¬ x.n < key := h5
        refine RC.skip (RC.back ?_)
        refine RC.seq ?_
        refine RC.region rfl ?_
        refine RL.ev (.move rfl) rfl rfl ?_
        refine RL.ev (.field0 fo78_5 rfl) rfl rfl ?_
        refine RL.ev (.indexArr ar76 rfl rfl (by omega)) rfl rfl ?_
        refine RL.ev (.load1 sh30 rfl (hb_8.cell rfl)) rfl rfl ?_
        refine RL.ev (.move rfl) rfl rfl ?_
        refine RL.call rfl ok60 (ih1 s C w4 hE hA hk0 (by omega) hF) rfl rfl ?_
        rintro _ w10 ⟨s1, C1, hg, ⟨r1, r2, rfl, hu1, hu2, hi⟩, hF1, ag, up⟩
        have up := up.le G.size
        have G := G.trans ag
        have hb_8 := hb_8.upd ag n8f
        have hF := hF1
        refine RL.ev (.move rfl) rfl rfl ?_
        refine RL.ev (.extract rfl rfl) rfl rfl ?_
        refine RL.ev (.extract rfl rfl) rfl rfl ?_
        refine RL.ev (.assign rfl) rfl rfl ?_
        refine RL.ev (.assign rfl) rfl rfl ?_
        refine RL.nil (RC.back ?_)
        refine RC.seq ?_
        refine RC.region rfl ?_
        refine RL.ev (.move rfl) rfl rfl ?_
        refine RL.ev (.move rfl) rfl rfl ?_
        refine RL.ev (.field0 fo78_2 rfl) rfl rfl ?_
        refine RL.ev (.load1 sh2 rfl (hb_8.cell rfl)) rfl rfl ?_
        refine RL.ev (.field0 fo78_3 rfl) rfl rfl ?_
        refine RL.ev (.load1 sh2 rfl (hb_8.cell rfl)) rfl rfl ?_
        refine RL.ev (.move rfl) rfl rfl ?_
        refine RL.ev (.field0 fo78_5 rfl) rfl rfl ?_
        refine RL.ev (.indexArr ar76 rfl rfl (by omega)) rfl rfl ?_
        refine RL.ev (.load1 sh30 rfl (hb_8.cell rfl)) rfl rfl ?_
        refine RL.call rfl ok68 (c_fmake bf s1 C1 x.n x.v r2 x.k1 hxo.n hxo.v hu2 hk1 w10 hF) rfl rfl ?_
        rintro _ w12 ⟨s2, r3, C2, rfl, hm, hF2, ag2, up2⟩
        have up2 := up.trans (up2.le G.size)
        have G := G.trans ag2
        have hb_8 := hb_8.upd ag2 n8f
        have hF := hF2
        refine RL.ev (.assign rfl) rfl rfl ?_
        refine RL.ev (.assign rfl) rfl rfl ?_
        refine RL.nil (RC.back ?_)
        refine RC.done (rs := [.tmp 6, .tmp 7]) (vs := [_, _]) rfl rfl ⟨rfl, rfl, trivial⟩ ?_
        -- end 2
        obtain ⟨p1, p2⟩ := split_ge (it := ⟨x.n, x.v⟩) hE t3 t4 t5 q hl hg hi hm
        exact ⟨s2, C2, p1, ⟨r1, r3, rfl, hu1, hm.u64, p2⟩, hF, G, up2⟩
set_option maxHeartbeats 1000000 in
theorem c_fjoin (bf : Nat) (A0 : Ar) : ∀ (n : Nat) (a b : Int) (L R : List It) (s : St) (C : Nat → Prop) (w : World), L.length + R.length ≤ n → n ≤ 1000 → IsT A0 a L → IsT A0 b R → Lt2 L R → Ext A0 s.1 → AOk s.1 → U64 a → U64 b → Ft C (Fo bf s C) w →
    FC Try.prog 63 [.pointer (some ⟨bf, 0, none⟩), .int .u64 a, .int .u64 b] w (FoP bf (L.length + R.length) s C w fun s' v => ∃ r, v = .int .u64 r ∧ U64 r ∧ (s'.2 = 0 → IsT s'.1 r (L ++ R))) := by
  intro n
  induction n with
  | zero =>
    intro a b L R s C w hn _ hL hR _ hE hA hua hub hF
    obtain rfl : L = [] := List.eq_nil_of_length_eq_zero (by omega)
    obtain rfl : R = [] := List.eq_nil_of_length_eq_zero (by omega)
    have ha : a = 0 := Classical.byContradiction fun e => by obtain ⟨_, _, _, _, _, _, h, _⟩ := hL.ne e; simp at h
    refine FC.intro Try.func63 rfl Try.ntmps63 rfl ?_
    have G : Agr (· = bf) w w := Agr.refl _ _
    refine RC.seq ?_
    refine RC.region rfl ?_
    refine RL.ev (.assign rfl) rfl rfl ?_
    refine RL.nil (RC.back ?_)
    refine RC.seq ?_
    refine RC.block ?_
    refine RC.seq ?_
    refine RC.region rfl ?_
    refine RL.ev (.move rfl) rfl rfl ?_
    refine RL.ev (.bin rfl rfl rfl) rfl rfl ?_
    refine RL.ev (.assign rfl) rfl rfl ?_
    refine RL.nil (RC.back ?_)
    refine RC.cond_dec rfl (fun h1 => ?_) (fun h1 => ?_)
    ·
      refine RC.seq ?_
      refine RC.region rfl ?_
      refine RL.ev (.move rfl) rfl rfl ?_
      refine RL.ev (.assign rfl) rfl rfl ?_
      refine RL.nil (RC.back ?_)
      refine RC.done (rs := [.tmp 6]) (vs := [_]) rfl rfl ⟨rfl, trivial⟩ ?_
      -- end 1
      exact ⟨s, C, Gs.refl hA, ⟨b, rfl, hub, fun _ => hE.isT hR⟩, hF, G, Up.refl _ _⟩
    ·
      exact absurd ha h1
  | succ n ih =>
    intro a b L R s C w hn hn2 hL hR h12 hE hA hua hub hF
    have hCb := hF.now.1
    refine FC.intro Try.func63 rfl Try.ntmps63 rfl ?_
    have G : Agr (· = bf) w w := Agr.refl _ _
    refine RC.seq ?_
    refine RC.region rfl ?_
    refine RL.ev (.assign rfl) rfl rfl ?_
    refine RL.nil (RC.back ?_)
    refine RC.seq ?_
    refine RC.block ?_
    refine RC.seq ?_
    refine RC.region rfl ?_
    refine RL.ev (.move rfl) rfl rfl ?_
    refine RL.ev (.bin rfl rfl rfl) rfl rfl ?_
    refine RL.ev (.assign rfl) rfl rfl ?_
    refine RL.nil (RC.back ?_)
    refine RC.cond_dec rfl (fun h1 => ?_) (fun h1 => ?_)
    ·
      have ha : a = 0 := h1
      refine RC.seq ?_
      refine RC.region rfl ?_
      refine RL.ev (.move rfl) rfl rfl ?_
      refine RL.ev (.assign rfl) rfl rfl ?_
      refine RL.nil (RC.back ?_)
      refine RC.done (rs := [.tmp 6]) (vs := [_]) rfl rfl ⟨rfl, trivial⟩ ?_
      -- end 1
      rw [ha] at hL
      obtain rfl := hL.zero
      exact ⟨s, C, (Gs.refl hA).mono (Nat.zero_le _), ⟨b, rfl, hub, fun _ => hE.isT hR⟩, hF, G, Up.refl _ _⟩
    ·
      have ha : ¬ a = 0 := h1
      refine RC.seq ?_
      refine RC.region rfl ?_
      refine RL.ev (.move rfl) rfl rfl ?_
      refine RL.ev (.bin rfl rfl rfl) rfl rfl ?_
      refine RL.ev (.assign rfl) rfl rfl ?_
      refine RL.nil (RC.back ?_)
      refine RC.cond_dec rfl (fun h2 => ?_) (fun h2 => ?_)
      ·
        have hb : b = 0 := h2
        refine RC.seq ?_
        refine RC.region rfl ?_
        refine RL.ev (.move rfl) rfl rfl ?_
        refine RL.ev (.assign rfl) rfl rfl ?_
        refine RL.nil (RC.back ?_)
        refine RC.done (rs := [.tmp 6]) (vs := [_]) rfl rfl ⟨rfl, trivial⟩ ?_
        -- end 2
        rw [hb] at hR
        obtain rfl := hR.zero
        exact ⟨s, C, (Gs.refl hA).mono (Nat.zero_le _), ⟨a, rfl, hua, fun _ => by rw [List.append_nil]; exact hE.isT hL⟩, hF, G, Up.refl _ _⟩
      ·
        have hb : ¬ b = 0 := h2
        obtain ⟨g, a1, b1, it, L1, R1, rfl, e1, e2, e3, e4, e5⟩ := hL.ne ha
        obtain ⟨g2, a2, b2, jt, L2, R2, rfl, f1, f2, f3, f4, f5⟩ := hR.ne hb
        obtain ⟨x, hx, hxi, hxa, hxb⟩ : ∃ x, getA A0 a = some x ∧ (⟨x.n, x.v⟩ : It) = it ∧ x.k0 = a1 ∧ x.k1 = b1 := ⟨_, e1, rfl, rfl, rfl⟩
        obtain ⟨y, hy, hyi, hya, hyb⟩ : ∃ x, getA A0 b = some x ∧ (⟨x.n, x.v⟩ : It) = jt ∧ x.k0 = a2 ∧ x.k1 = b2 := ⟨_, f1, rfl, rfl, rfl⟩
        have hx := hE.get hx
        have hy := hE.get hy
        have hgx := getN_yes hx
        have hgy := getN_yes hy
        have hxo := hF.now.nok x (getA_nok hx)
        have hyo := hF.now.nok y (getA_nok hy)
        clear e1 f1
        subst hxi hxa hxb hyi hya hyb
        have hk0 : U64 x.k0 := hxo.kids _ (by simp [Node.kids])
        have hk1 : U64 x.k1 := hxo.kids _ (by simp [Node.kids])
        have hj0 : U64 y.k0 := hyo.kids _ (by simp [Node.kids])
        have hj1 : U64 y.k1 := hyo.kids _ (by simp [Node.kids])
        have hn3 := hn
        simp only [List.length_append, List.length_cons] at hn3
        refine RC.skip (RC.back ?_)
        refine RC.seq ?_
        refine RC.region rfl ?_
        refine RL.ev (.move rfl) rfl rfl ?_
        refine RL.ev (.move rfl) rfl rfl ?_
        refine RL.call rfl ok52 ((hgx ▸ c_fget bf s C a hua w hF)) rfl rfl ?_
        rintro _ w3 ⟨rfl, s4⟩
        have G := G.trans s4.agr
        have hF := hF.sub s4
        refine RL.ev (.move rfl) rfl rfl ?_
        refine RL.ev (.move rfl) rfl rfl ?_
        refine RL.call rfl ok52 ((hgy ▸ c_fget bf s C b hub w3 hF)) rfl rfl ?_
        rintro _ w5 ⟨rfl, s6⟩
        have G := G.trans s6.agr
        have hF := hF.sub s6
        refine RL.alloc ze78 rfl rfl (fun b_7 w_7 e_7 z_7 hb_7 s_7 => ?_)
        have d_hF_b_7 := hF.neNew e_7
        have geG_7 := agLe G e_7
        have G := G.trans s_7.agr
        have hF := hF.sub s_7
        have n7f : b_7 ≠ bf := fun e => d_hF_b_7 bf hCb e.symm
        refine RL.alloc ze78 rfl rfl (fun b_8 w_8 e_8 z_8 hb_8 s_8 => ?_)
        have n_7__8 := hb_7.ne e_8
        have d_hF_b_8 := hF.neNew e_8
        have geG_8 := agLe G e_8
        have G := G.trans s_8.agr
        have hF := hF.sub s_8
        have hb_7 := hb_7.sub s_8
        have n8f : b_8 ≠ bf := fun e => d_hF_b_8 bf hCb e.symm
        refine RL.store sh78 rfl rfl rfl hb_7 (by exact Nat.le_of_ble_eq_true rfl) (by rfl) rfl (fun w7 z7 hb_7 a7 => ?_)
        have G := agNew G a7 geG_7
        have hF := hF.updD a7 d_hF_b_7
        have hb_8 := hb_8.upd a7 n_7__8.symm
        have hb_7 : Has w7 b_7 (x.cells) _ := hb_7.now (by kernel_rfl)
        refine RL.store sh78 rfl rfl rfl hb_8 (by exact Nat.le_of_ble_eq_true rfl) (by rfl) rfl (fun w8 z8 hb_8 a8 => ?_)
        have G := agNew G a8 geG_8
        have hF := hF.updD a8 d_hF_b_8
        have hb_7 := hb_7.upd a8 n_7__8
        have hb_8 : Has w8 b_8 (y.cells) _ := hb_8.now (by kernel_rfl)
        refine RL.nil (RC.back ?_)
        refine RC.seq ?_
        refine RC.seq ?_
        refine RC.region rfl ?_
        refine RL.ev (.field0 fo78_2 rfl) rfl rfl ?_
        refine RL.ev (.load1 sh2 rfl (hb_7.cell rfl)) rfl rfl ?_
        refine RL.ev (.field0 fo78_2 rfl) rfl rfl ?_
        refine RL.ev (.load1 sh2 rfl (hb_8.cell rfl)) rfl rfl ?_
        refine RL.call rfl ok69 (c_before x.n y.n w8) rfl rfl ?_
        rintro _ w9 ⟨rfl, s10⟩
        have G := G.trans s10.agr
        have hF := hF.sub s10
        have hb_7 := hb_7.sub s10
        have hb_8 := hb_8.sub s10
        refine RL.nil (RC.back ?_)
        refine RC.cond rfl (fun h11 => ?_) (fun h11 => ?_)
        ·
          have q : beforeK x.n y.n = true := h11
          refine RC.seq ?_
          refine RC.drawD (fun k => k = bf) [13, 14] w9.heap.size 16 rfl rfl mxo (fun w12 s13 => ?_)
          have ltD_hF := fun k hk => (hF.ge k hk).2
          have ltD_b_7 := hb_7.lt
          have ltD_b_8 := hb_8.lt
          have szD := Nat.le_refl w9.heap.size
          have G := G.trans s13.agr
          have hF := hF.sub s13
          have hb_7 := hb_7.sub s13
          have hb_8 := hb_8.sub s13
          have szD := Nat.le_trans szD s13.size
          refine RD.take 0 rfl (by kernel_rfl) (by kernel_rfl) (by kernel_rfl) (fun w' s' => .move rfl) rfl rfl ?_
          refine RD.take 1 rfl (by kernel_rfl) (by kernel_rfl) (by kernel_rfl) (fun w' s' => .field0 fo78_2 rfl) rfl rfl ?_
          refine RD.take 2 rfl (by kernel_rfl) (by kernel_rfl) (by kernel_rfl) (fun w' s' => .load1 sh2 rfl ((hb_7.step s' (fun e => e.elim (fun e => n7f e) (fun e => Nat.not_le.2 ltD_b_7 e))).cell rfl)) rfl rfl ?_
          refine RD.take 3 rfl (by kernel_rfl) (by kernel_rfl) (by kernel_rfl) (fun w' s' => .field0 fo78_3 rfl) rfl rfl ?_
          refine RD.take 4 rfl (by kernel_rfl) (by kernel_rfl) (by kernel_rfl) (fun w' s' => .load1 sh2 rfl ((hb_7.step s' (fun e => e.elim (fun e => n7f e) (fun e => Nat.not_le.2 ltD_b_7 e))).cell rfl)) rfl rfl ?_
          refine RD.take 5 rfl (by kernel_rfl) (by kernel_rfl) (by kernel_rfl) (fun w' s' => .field0 fo78_5 rfl) rfl rfl ?_
          refine RD.take 6 rfl (by kernel_rfl) (by kernel_rfl) (by kernel_rfl) (fun w' s' => .indexArr ar76 rfl rfl (by omega)) rfl rfl ?_
          refine RD.take 7 rfl (by kernel_rfl) (by kernel_rfl) (by kernel_rfl) (fun w' s' => .load1 sh30 rfl ((hb_7.step s' (fun e => e.elim (fun e => n7f e) (fun e => Nat.not_le.2 ltD_b_7 e))).cell rfl)) rfl rfl ?_
          refine RD.take 8 rfl (by kernel_rfl) (by kernel_rfl) (by kernel_rfl) (fun w' s' => .move rfl) rfl rfl ?_
          refine RD.take 9 rfl (by kernel_rfl) (by kernel_rfl) (by kernel_rfl) (fun w' s' => .field0 fo78_5 rfl) rfl rfl ?_
          refine RD.take 10 rfl (by kernel_rfl) (by kernel_rfl) (by kernel_rfl) (fun w' s' => .indexArr ar76 rfl rfl (by omega)) rfl rfl ?_
          refine RD.take 11 rfl (by kernel_rfl) (by kernel_rfl) (by kernel_rfl) (fun w' s' => .load1 sh30 rfl ((hb_7.step s' (fun e => e.elim (fun e => n7f e) (fun e => Nat.not_le.2 ltD_b_7 e))).cell rfl)) rfl rfl ?_
          refine RD.take 12 rfl (by kernel_rfl) (by kernel_rfl) (by kernel_rfl) (fun w' s' => .move rfl) rfl rfl ?_
          refine RD.all [13] (by kernel_rfl) rfl (RDs.cons rfl ?_ (RDs.nil))
          refine RL.call rfl ok63 (ih x.k1 b R1 (L2 ++ ⟨y.n, y.v⟩ :: R2) s C w12 (by simp only [List.length_append, List.length_cons]; omega) (by omega) e3 hR (fun z hz => h12 z (List.mem_append_right _ (List.mem_cons_of_mem _ hz))) hE hA hk1 hub hF) rfl rfl ?_
          rintro _ w14 ⟨s1, C1, hg, ⟨r1, rfl, hu1, hi⟩, hF1, ag, up⟩
          have up := up.le G.size
          have G := G.trans ag
          have hb_7 := hb_7.upd ag n7f
          have hb_8 := hb_8.upd ag n8f
          have szD := Nat.le_trans szD ag.size
          have hF := hF1
          refine RD.backW rfl (ag.mono fun k _ e => .inl e) ?_
          refine RD.all [14] (by kernel_rfl) rfl (RDs.cons rfl ?_ (RDs.nil))
          refine RL.call rfl ok68 (c_fmake bf s1 C1 x.n x.v x.k0 r1 hxo.n hxo.v hk0 hu1 w14 hF) rfl rfl ?_
          rintro _ w16 ⟨s2, r3, C2, rfl, hm, hF2, ag2, up2⟩
          have up2 := up.trans (up2.le G.size)
          have G := G.trans ag2
          have hb_7 := hb_7.upd ag2 n7f
          have hb_8 := hb_8.upd ag2 n8f
          have szD := Nat.le_trans szD ag2.size
          have hF := hF2
          refine RD.backW rfl (ag2.mono fun k _ e => .inl e) ?_
          refine RD.take 15 rfl (by kernel_rfl) (by kernel_rfl) (by kernel_rfl) (fun w' s' => .assign rfl) rfl rfl ?_
          refine RD.done (by kernel_rfl) (RC.back ?_)
          refine RC.done (rs := [.tmp 6]) (vs := [_]) rfl rfl ⟨rfl, trivial⟩ ?_
          -- end 3
          obtain ⟨p1, p2⟩ := join_before (it := ⟨x.n, x.v⟩) (jt := ⟨y.n, y.v⟩) hE e2 e4 e5 (heap_all (jt := ⟨y.n, y.v⟩) q f4) f5 h12 (by omega) hg hi hm
          exact ⟨s2, C2, p1, ⟨r3, rfl, hm.u64, p2⟩, hF, G, up2⟩
        ·
          have q : beforeK x.n y.n = false := (by simpa using h11)
          refine RC.skip (RC.back ?_)
          refine RC.seq ?_
          refine RC.drawD (fun k => k = bf) [10, 14] w9.heap.size 16 rfl rfl mxo (fun w18 s19 => ?_)
          have ltD_hF := fun k hk => (hF.ge k hk).2
          have ltD_b_7 := hb_7.lt
          have ltD_b_8 := hb_8.lt
          have szD := Nat.le_refl w9.heap.size
          have G := G.trans s19.agr
          have hF := hF.sub s19
          have hb_7 := hb_7.sub s19
          have hb_8 := hb_8.sub s19
          have szD := Nat.le_trans szD s19.size
          refine RD.take 0 rfl (by kernel_rfl) (by kernel_rfl) (by kernel_rfl) (fun w' s' => .move rfl) rfl rfl ?_
          refine RD.take 1 rfl (by kernel_rfl) (by kernel_rfl) (by kernel_rfl) (fun w' s' => .field0 fo78_2 rfl) rfl rfl ?_
          refine RD.take 2 rfl (by kernel_rfl) (by kernel_rfl) (by kernel_rfl) (fun w' s' => .load1 sh2 rfl ((hb_8.step s' (fun e => e.elim (fun e => n8f e) (fun e => Nat.not_le.2 ltD_b_8 e))).cell rfl)) rfl rfl ?_
          refine RD.take 3 rfl (by kernel_rfl) (by kernel_rfl) (by kernel_rfl) (fun w' s' => .field0 fo78_3 rfl) rfl rfl ?_
          refine RD.take 4 rfl (by kernel_rfl) (by kernel_rfl) (by kernel_rfl) (fun w' s' => .load1 sh2 rfl ((hb_8.step s' (fun e => e.elim (fun e => n8f e) (fun e => Nat.not_le.2 ltD_b_8 e))).cell rfl)) rfl rfl ?_
          refine RD.take 5 rfl (by kernel_rfl) (by kernel_rfl) (by kernel_rfl) (fun w' s' => .move rfl) rfl rfl ?_
          refine RD.take 6 rfl (by kernel_rfl) (by kernel_rfl) (by kernel_rfl) (fun w' s' => .move rfl) rfl rfl ?_
          refine RD.take 7 rfl (by kernel_rfl) (by kernel_rfl) (by kernel_rfl) (fun w' s' => .field0 fo78_5 rfl) rfl rfl ?_
          refine RD.take 8 rfl (by kernel_rfl) (by kernel_rfl) (by kernel_rfl) (fun w' s' => .indexArr ar76 rfl rfl (by omega)) rfl rfl ?_
          refine RD.take 9 rfl (by kernel_rfl) (by kernel_rfl) (by kernel_rfl) (fun w' s' => .load1 sh30 rfl ((hb_8.step s' (fun e => e.elim (fun e => n8f e) (fun e => Nat.not_le.2 ltD_b_8 e))).cell rfl)) rfl rfl ?_
          refine RD.take 11 rfl (by kernel_rfl) (by kernel_rfl) (by kernel_rfl) (fun w' s' => .field0 fo78_5 rfl) rfl rfl ?_
          refine RD.take 12 rfl (by kernel_rfl) (by kernel_rfl) (by kernel_rfl) (fun w' s' => .indexArr ar76 rfl rfl (by omega)) rfl rfl ?_
          refine RD.take 13 rfl (by kernel_rfl) (by kernel_rfl) (by kernel_rfl) (fun w' s' => .load1 sh30 rfl ((hb_8.step s' (fun e => e.elim (fun e => n8f e) (fun e => Nat.not_le.2 ltD_b_8 e))).cell rfl)) rfl rfl ?_
          refine RD.all [10] (by kernel_rfl) rfl (RDs.cons rfl ?_ (RDs.nil))
          refine RL.call rfl ok63 (ih a y.k0 (L1 ++ ⟨x.n, x.v⟩ :: R1) L2 s C w18 (by simp only [List.length_append, List.length_cons]; omega) (by omega) hL f2 (fun z hz u hu => h12 z hz u (List.mem_append_left _ hu)) hE hA hua hj0 hF) rfl rfl ?_
          rintro _ w20 ⟨s1, C1, hg, ⟨r1, rfl, hu1, hi⟩, hF1, ag, up⟩
          have up := up.le G.size
          have G := G.trans ag
          have hb_7 := hb_7.upd ag n7f
          have hb_8 := hb_8.upd ag n8f
          have szD := Nat.le_trans szD ag.size
          have hF := hF1
          refine RD.backW rfl (ag.mono fun k _ e => .inl e) ?_
          refine RD.all [14] (by kernel_rfl) rfl (RDs.cons rfl ?_ (RDs.nil))
          refine RL.call rfl ok68 (c_fmake bf s1 C1 y.n y.v r1 y.k1 hyo.n hyo.v hu1 hj1 w20 hF) rfl rfl ?_
          rintro _ w22 ⟨s2, r3, C2, rfl, hm, hF2, ag2, up2⟩
          have up2 := up.trans (up2.le G.size)
          have G := G.trans ag2
          have hb_7 := hb_7.upd ag2 n7f
          have hb_8 := hb_8.upd ag2 n8f
          have szD := Nat.le_trans szD ag2.size
          have hF := hF2
          refine RD.backW rfl (ag2.mono fun k _ e => .inl e) ?_
          refine RD.take 15 rfl (by kernel_rfl) (by kernel_rfl) (by kernel_rfl) (fun w' s' => .assign rfl) rfl rfl ?_
          refine RD.done (by kernel_rfl) (RC.back ?_)
          refine RC.done (rs := [.tmp 6]) (vs := [_]) rfl rfl ⟨rfl, trivial⟩ ?_
          -- end 4
          have hxy : x.n < y.n := h12 ⟨x.n, x.v⟩ (by simp) ⟨y.n, y.v⟩ (by simp)
          have q2 : beforeK y.n x.n = true := (befK_total (show ¬ x.n = y.n by omega)).resolve_left (by rw [q]; simp)
          obtain ⟨p1, p2⟩ := join_after (jt := ⟨y.n, y.v⟩) hE f3 f4 f5 (heap_all (jt := ⟨x.n, x.v⟩) q2 e4) e5 h12 (by omega) hg hi hm
          exact ⟨s2, C2, p1, ⟨r3, rfl, hm.u64, p2⟩, hF, G, up2⟩
end Go.Proofs.Ytekdjjppdijkmaa
