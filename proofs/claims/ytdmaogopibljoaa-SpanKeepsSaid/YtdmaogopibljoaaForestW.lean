/-
  The forest's methods, walked: split, join, find.
-/
import Derived.Test.YtdmaogopibljoaaForest
import Derived.Test.YtdmaogopibljoaaForestQ
set_option linter.unusedVariables false
set_option linter.unusedSimpArgs false
namespace Go.Proofs.Ytdmaogopibljoaa
open Go Go.XL

theorem Fo.nok {b : Nat} {s : St} {C : Nat → Prop} {u : World} (h : Fo b s C u) : ∀ x ∈ s.1.nodes, x.ok := by
  obtain ⟨_, na, fa, nc, fc, M, _, _, _, h, _⟩ := h
  exact h.now.nok
theorem u0 : U64 0 := by unfold U64; decide
theorem heap_all {k : Int} {jt : It} {L R : List It} (q : beforeK k jt.k = true) (hp : ∀ y ∈ L ++ R, beforeK jt.k y.k = true) : ∀ y ∈ L ++ jt :: R, beforeK k y.k = true := by
  intro y hy
  rcases List.mem_append.1 hy with hy | hy
  · exact befK_trans q (hp y (List.mem_append_left _ hy))
  · rcases List.mem_cons.1 hy with rfl | hy
    · exact q
    · exact befK_trans q (hp y (List.mem_append_right _ hy))
/-- what a method of the forest answers -/
def FoP (bf n : Nat) (s : St) (C : Nat → Prop) (w : World) (J : St → Value → Prop) (v : Value) (w' : World) : Prop :=
  ∃ s' C', Gs n s s' ∧ J s' v ∧ Ft C' (Fo bf s' C') w' ∧ Agr (· = bf) w w' ∧ Up C w C'
theorem c_fsplit (bf : Nat) (key : Int) (hkey : I64 key) (A0 : Ar) (r : Int) (L : List It) (hL : IsT A0 r L) : ∀ (s : St) (C : Nat → Prop) (w : World), Ext A0 s.1 → AOk s.1 → U64 r → L.length ≤ 1000 → Ft C (Fo bf s C) w →
    FC Try.prog 37 [.pointer (some ⟨bf, 0, none⟩), .int .u64 r, .int .i64 key] w (FoP bf L.length s C w fun s' v => ∃ r1 r2, v = .tuple #[.int .u64 r1, .int .u64 r2] ∧ U64 r1 ∧ U64 r2 ∧ (s'.2 = 0 → IsT s'.1 r1 (ltL key L) ∧ IsT s'.1 r2 (geL key L))) := by
  induction hL with
  | nil =>
    intro s C w hE hA hr hl hF
    refine FC.intro Try.func37 rfl Try.ntmps37 rfl ?_
    have G : Agr (· = bf) w w := Agr.refl _ _
    refine RC.seq ?_
    refine RC.region rfl ?_
    refine RL.ev (.assign rfl) rfl rfl ?_
    refine RL.ev (.assign rfl) rfl rfl ?_
    refine RL.nil (RC.back ?_)
    refine RC.seq ?_
    refine RC.seq ?_
    refine RC.region rfl ?_
    refine RL.ev (.move rfl) rfl rfl ?_
    refine RL.ev (.bin rfl rfl rfl) rfl rfl ?_
    refine RL.nil (RC.back ?_)
    refine RC.cond_dec rfl (fun h1 => ?_) (fun h1 => ?_)
    ·
      refine RC.seq ?_
      refine RC.region rfl ?_
      refine RL.ev (.assign rfl) rfl rfl ?_
      refine RL.ev (.assign rfl) rfl rfl ?_
      refine RL.nil (RC.back ?_)
      refine RC.done (rs := [.tmp 6, .tmp 7]) (vs := [_, _]) rfl rfl ⟨rfl, rfl, trivial⟩ ?_
      -- end 1
      exact ⟨s, C, Gs.refl hA, ⟨0, 0, rfl, u0, u0, fun _ => ⟨.nil, .nil⟩⟩, hF, G, Up.refl _ _⟩
    ·
      exact absurd rfl h1
  | @node r g a b it L R t1 t2 t3 t4 t5 ih1 ih2 =>
    intro s C w hE hA hr hl hF
    obtain ⟨x, hx, hxi, hxa, hxb⟩ : ∃ x, getA A0 r = some x ∧ (⟨x.n, x.v⟩ : It) = it ∧ x.k0 = a ∧ x.k1 = b := ⟨_, t1, rfl, rfl, rfl⟩
    have hx := hE.get hx
    have hgx := getN_yes hx
    have hxo := hF.now.nok x (getA_nok hx)
    have hr0 : ¬ r = 0 := fun e => by rw [e, getA_0] at hx; cases hx
    have hCb := hF.now.1
    have hk0 : U64 x.k0 := hxo.kids _ (by simp [Node.kids])
    have hk1 : U64 x.k1 := hxo.kids _ (by simp [Node.kids])
    clear t1
    have hl2 := hl
    rw [List.length_append, List.length_cons] at hl2
    subst hxi hxa hxb
    refine FC.intro Try.func37 rfl Try.ntmps37 rfl ?_
    have G : Agr (· = bf) w w := Agr.refl _ _
    refine RC.seq ?_
    refine RC.region rfl ?_
    refine RL.ev (.assign rfl) rfl rfl ?_
    refine RL.ev (.assign rfl) rfl rfl ?_
    refine RL.nil (RC.back ?_)
    refine RC.seq ?_
    refine RC.seq ?_
    refine RC.region rfl ?_
    refine RL.ev (.move rfl) rfl rfl ?_
    refine RL.ev (.bin rfl rfl rfl) rfl rfl ?_
    refine RL.nil (RC.back ?_)
    refine RC.cond_dec rfl (fun h1 => ?_) (fun h1 => ?_)
    ·
      exact absurd h1 hr0
    ·
      refine RC.skip (RC.back ?_)
      refine RC.seq ?_
      refine RC.region rfl ?_
      refine RL.ev (.move rfl) rfl rfl ?_
      refine RL.ev (.move rfl) rfl rfl ?_
      refine RL.call rfl ok25 ((hgx ▸ c_fget bf s C r hr w hF)) rfl rfl ?_
      rintro _ w2 ⟨rfl, s3⟩
      have G := G.trans s3.agr
      have hF := hF.sub s3
      refine RL.alloc ze69 rfl rfl (fun b_8 w_8 e_8 z_8 hb_8 s_8 => ?_)
      have d_hF_b_8 := hF.neNew e_8
      have geG_8 := agLe G e_8
      have G := G.trans s_8.agr
      have hF := hF.sub s_8
      have n8f : b_8 ≠ bf := fun e => d_hF_b_8 bf hCb e.symm
      refine RL.store sh69 rfl rfl rfl hb_8 (by exact Nat.le_of_ble_eq_true rfl) (by rfl) rfl (fun w4 z4 hb_8 a4 => ?_)
      have G := agNew G a4 geG_8
      have hF := hF.updD a4 d_hF_b_8
      have hb_8 : Has w4 b_8 (x.cells) _ := hb_8.now (by kernel_rfl)
      refine RL.nil (RC.back ?_)
      refine RC.seq ?_
      refine RC.seq ?_
      refine RC.region rfl ?_
      refine RL.ev (.field0 fo69_2 rfl) rfl rfl ?_
      refine RL.ev (.load1 sh2 rfl (hb_8.cell rfl)) rfl rfl ?_
      refine RL.ev (.move rfl) rfl rfl ?_
      refine RL.ev (.bin rfl rfl rfl) rfl rfl ?_
      refine RL.nil (RC.back ?_)
      refine RC.cond_dec rfl (fun h5 => ?_) (fun h5 => ?_)
      ·
        have q : x.n < key := h5
        refine RC.seq ?_
        refine RC.region rfl ?_
        refine RL.ev (.move rfl) rfl rfl ?_
        refine RL.ev (.field0 fo69_5 rfl) rfl rfl ?_
        refine RL.ev (.indexArr ar67 rfl rfl (by omega)) rfl rfl ?_
        refine RL.ev (.load1 sh30 rfl (hb_8.cell rfl)) rfl rfl ?_
        refine RL.ev (.move rfl) rfl rfl ?_
        refine RL.call rfl ok37 (ih2 s C w4 hE hA hk1 (by omega) hF) rfl rfl ?_
        rintro _ w6 ⟨s1, C1, hg, ⟨r1, r2, rfl, hu1, hu2, hi⟩, hF1, ag, up⟩
        have up := up.le G.size
        have G := G.trans ag
        have hb_8 := hb_8.upd ag n8f
        have hF := hF1
        refine RL.ev (.move rfl) rfl rfl ?_
        refine RL.ev (.extract rfl rfl) rfl rfl ?_
        refine RL.ev (.extract rfl rfl) rfl rfl ?_
        refine RL.ev (.assign rfl) rfl rfl ?_
        refine RL.ev (.assign rfl) rfl rfl ?_
        refine RL.nil (RC.back ?_)
        refine RC.seq ?_
        refine RC.region rfl ?_
        refine RL.ev (.move rfl) rfl rfl ?_
        refine RL.ev (.field0 fo69_2 rfl) rfl rfl ?_
        refine RL.ev (.load1 sh2 rfl (hb_8.cell rfl)) rfl rfl ?_
        refine RL.ev (.field0 fo69_3 rfl) rfl rfl ?_
        refine RL.ev (.load1 sh2 rfl (hb_8.cell rfl)) rfl rfl ?_
        refine RL.ev (.field0 fo69_5 rfl) rfl rfl ?_
        refine RL.ev (.indexArr ar67 rfl rfl (by omega)) rfl rfl ?_
        refine RL.ev (.load1 sh30 rfl (hb_8.cell rfl)) rfl rfl ?_
        refine RL.ev (.move rfl) rfl rfl ?_
        refine RL.call rfl ok35 (c_fmake bf s1 C1 x.n x.v x.k0 r1 hxo.n hxo.v hk0 hu1 w6 hF) rfl rfl ?_
        rintro _ w8 ⟨s2, r3, C2, rfl, hm, hF2, ag2, up2⟩
        have up2 := up.trans (up2.le G.size)
        have G := G.trans ag2
        have hb_8 := hb_8.upd ag2 n8f
        have hF := hF2
        refine RL.ev (.move rfl) rfl rfl ?_
        refine RL.ev (.assign rfl) rfl rfl ?_
        refine RL.ev (.assign rfl) rfl rfl ?_
        refine RL.nil (RC.back ?_)
        refine RC.done (rs := [.tmp 6, .tmp 7]) (vs := [_, _]) rfl rfl ⟨rfl, rfl, trivial⟩ ?_
        -- end 1
        obtain ⟨p1, p2⟩ := split_lt (it := ⟨x.n, x.v⟩) hE t2 t4 t5 q hl hg hi hm
        exact ⟨s2, C2, p1, ⟨r3, r2, rfl, hm.u64, hu2, p2⟩, hF, G, up2⟩
      ·
        have q : ¬ x.n < key := h5
        refine RC.skip (RC.back ?_)
        refine RC.seq ?_
        refine RC.region rfl ?_
        refine RL.ev (.move rfl) rfl rfl ?_
        refine RL.ev (.field0 fo69_5 rfl) rfl rfl ?_
        refine RL.ev (.indexArr ar67 rfl rfl (by omega)) rfl rfl ?_
        refine RL.ev (.load1 sh30 rfl (hb_8.cell rfl)) rfl rfl ?_
        refine RL.ev (.move rfl) rfl rfl ?_
        refine RL.call rfl ok37 (ih1 s C w4 hE hA hk0 (by omega) hF) rfl rfl ?_
        rintro _ w10 ⟨s1, C1, hg, ⟨r1, r2, rfl, hu1, hu2, hi⟩, hF1, ag, up⟩
        have up := up.le G.size
        have G := G.trans ag
        have hb_8 := hb_8.upd ag n8f
        have hF := hF1
        refine RL.ev (.move rfl) rfl rfl ?_
        refine RL.ev (.extract rfl rfl) rfl rfl ?_
        refine RL.ev (.extract rfl rfl) rfl rfl ?_
        refine RL.ev (.assign rfl) rfl rfl ?_
        refine RL.ev (.assign rfl) rfl rfl ?_
        refine RL.nil (RC.back ?_)
        refine RC.seq ?_
        refine RC.region rfl ?_
        refine RL.ev (.move rfl) rfl rfl ?_
        refine RL.ev (.move rfl) rfl rfl ?_
        refine RL.ev (.field0 fo69_2 rfl) rfl rfl ?_
        refine RL.ev (.load1 sh2 rfl (hb_8.cell rfl)) rfl rfl ?_
        refine RL.ev (.field0 fo69_3 rfl) rfl rfl ?_
        refine RL.ev (.load1 sh2 rfl (hb_8.cell rfl)) rfl rfl ?_
        refine RL.ev (.move rfl) rfl rfl ?_
        refine RL.ev (.field0 fo69_5 rfl) rfl rfl ?_
        refine RL.ev (.indexArr ar67 rfl rfl (by omega)) rfl rfl ?_
        refine RL.ev (.load1 sh30 rfl (hb_8.cell rfl)) rfl rfl ?_
        refine RL.call rfl ok35 (c_fmake bf s1 C1 x.n x.v r2 x.k1 hxo.n hxo.v hu2 hk1 w10 hF) rfl rfl ?_
        rintro _ w12 ⟨s2, r3, C2, rfl, hm, hF2, ag2, up2⟩
        have up2 := up.trans (up2.le G.size)
        have G := G.trans ag2
        have hb_8 := hb_8.upd ag2 n8f
        have hF := hF2
        refine RL.ev (.assign rfl) rfl rfl ?_
        refine RL.ev (.assign rfl) rfl rfl ?_
        refine RL.nil (RC.back ?_)
        refine RC.done (rs := [.tmp 6, .tmp 7]) (vs := [_, _]) rfl rfl ⟨rfl, rfl, trivial⟩ ?_
        -- end 2
        obtain ⟨p1, p2⟩ := split_ge (it := ⟨x.n, x.v⟩) hE t3 t4 t5 q hl hg hi hm
        exact ⟨s2, C2, p1, ⟨r1, r3, rfl, hu1, hm.u64, p2⟩, hF, G, up2⟩
end Go.Proofs.Ytdmaogopibljoaa
