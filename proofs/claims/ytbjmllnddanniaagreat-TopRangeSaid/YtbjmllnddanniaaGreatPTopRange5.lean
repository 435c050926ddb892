/-
  What the law TopRange leans on, part 5.
-/
import Derived.Test.YtbjmllnddanniaaGreatPTopRange4
set_option linter.unusedVariables false
set_option linter.unusedSimpArgs false
namespace Go.Proofs.YtbjmllnddanniaaGreat
open Go Go.XL
theorem reachA_0 (A : Ar) : reachA A [0] = [] := by
  unfold reachA
  rw [List.foldl_cons, List.foldl_nil, visitF_no (getA_0 A)]
theorem c_hpItems0 (A : Ar) (na fa : Option Addr) (nc fc : Nat) (hok : AOk A) (w : World) (hA : ArR w na fa A) :
    FC Tryz.prog 45 [arV na fa nc fc A, .int .u64 0] w (Val (.tuple #[.slice none 0 0, .int .i64 0]) w) := by
  have hall : allHp A [0] = true := allHp_iff.2 ⟨hok, fun r hr => ⟨[], [], by rw [List.mem_singleton.1 hr]; exact IsP.zero A⟩⟩
  refine FC.intro Tryz.func45 rfl Tryz.ntmps45 rfl ?_
  have S := Sub.refl w
  refine RC.seq ?_
  refine RC.region rfl ?_
  refine RL.box rfl rfl rfl (fun b_2 w_2 e_2 z_2 hb_2 s_2 => ?_)
  have ge_2 := S.le e_2
  have S := S.trans s_2
  have hb_2 : Has w_2 b_2 ([.slice na A.nodes.length nc, .slice fa A.free.length fc]) _ := hb_2
  refine RL.ev (.assign rfl) rfl rfl ?_
  refine RL.ev (.assign rfl) rfl rfl ?_
  refine RL.nil (RC.back ?_)
  refine RC.seq ?_
  refine RC.region rfl ?_
  refine RL.ev (.loadR ([.slice na A.nodes.length nc, .slice fa A.free.length fc]) sh26 rfl hb_2.row rfl) rfl rfl ?_
  refine RL.ev (.move rfl) rfl rfl ?_
  refine RL.buildSlice1 sl73 _ ze31 rfl rfl rfl rfl rfl rfl rfl (fun b_14 w_14 e_14 z_14 hb_14 s_14 => ?_)
  have ge_14 := S.le e_14
  have n_2__14 := hb_2.ne e_14
  have S := S.trans s_14
  have hb_2 := hb_2.sub s_14
  refine RL.call rfl ok100 (c_aReach A na fa nc fc [0] 1 rfl (some ⟨b_14, 0, none⟩) 1 (by decide) (fun x hx => by rw [List.mem_singleton.1 hx]; unfold U64; decide) w_14 (hA.sub S) (Has.sl1 (enc := u6) (l := [0]) hb_14)) rfl rfl ?_
  rintro v_ w1 ⟨s2, hr⟩
  obtain ⟨a1, c1, hv⟩ : ∃ a1 c1, v_ = Value.tuple #[.slice a1 0 c1, .int .i64 0] := hr.elim (fun h => absurd hok h.1) (fun ⟨_, a, c, e, _⟩ => ⟨a, c, by rw [e, reachA_0]; rfl⟩)
  subst hv
  have S := S.trans s2
  have hb_2 := hb_2.sub s2
  have hb_14 := hb_14.sub s2
  refine RL.ev (.move rfl) rfl rfl ?_
  refine RL.ev (.extract rfl rfl) rfl rfl ?_
  refine RL.ev (.extract rfl rfl) rfl rfl ?_
  refine RL.ev (.assign rfl) rfl rfl ?_
  refine RL.ev (.assign rfl) rfl rfl ?_
  refine RL.nil (RC.back ?_)
  refine RC.seq ?_
  refine RC.seq ?_
  refine RC.region rfl ?_
  refine RL.ev (.move rfl) rfl rfl ?_
  refine RL.ev (.bin rfl rfl rfl) rfl rfl ?_
  refine RL.ev (.move rfl) rfl rfl ?_
  refine RL.split 20 rfl (fun h3 => ?_) (fun h3 => ?_)
  ·
    exact absurd rfl h3
  ·
    refine RL.ev (.loadR ([.slice na A.nodes.length nc, .slice fa A.free.length fc]) sh26 rfl hb_2.row rfl) rfl rfl ?_
    refine RL.ev (.move rfl) rfl rfl ?_
    refine RL.call rfl ok101 ((hall ▸ c_hpRight A na fa nc fc 0 (by unfold U64; decide) w1 (hA.sub S))) rfl rfl ?_
    rintro _ w4 ⟨rfl, s5⟩
    have S := S.trans s5
    have hb_2 := hb_2.sub s5
    have hb_14 := hb_14.sub s5
    refine RL.ev (.not rfl) rfl rfl ?_
    refine RL.ev (.pick_f rfl rfl) rfl rfl ?_
    refine RL.nil (RC.back ?_)
    refine RC.cond_f rfl ?_
    refine RC.skip (RC.back ?_)
    refine RC.seq ?_
    refine RC.region rfl ?_
    refine RL.ev (.assign rfl) rfl rfl ?_
    refine RL.nil (RC.back ?_)
    refine RC.seq ?_
    refine RC.seq ?_
    refine RC.region rfl ?_
    refine RL.ev (.move rfl) rfl rfl ?_
    refine RL.ev (.len sl24 rfl) rfl rfl ?_
    refine RL.ev (.move rfl) rfl rfl ?_
    refine RL.nil (RC.back ?_)
    refine RC.block ?_
    refine RC.loop (α := Unit) (fun _ => [(2, .pointer (some ⟨b_2, 0, none⟩)), (8, .slice none 0 0), (26, .slice a1 0 c1), (27, .int .i64 0), (28, .int .i64 0)]) (fun _ w6 => Has w6 b_2 [.slice na A.nodes.length nc, .slice fa A.free.length fc] 26 ∧ Sub w w6) (fun _ => 0) () (keep_of (by repeat (first | exact trivial | refine And.intro rfl ?_))) (⟨hb_2, S⟩) (fun _ w6 hJ => ?_)
    obtain ⟨hb_2, S⟩ := hJ
    refine RC.seq ?_
    refine RC.region rfl ?_
    refine RL.ev (.bin rfl rfl rfl) rfl rfl ?_
    refine RL.nil (RC.back ?_)
    refine RC.seq ?_
    refine RC.cond_dec rfl (fun h7 => ?_) (fun h7 => ?_)
    ·
      exact absurd h7 (by decide)
    ·
      refine RC.exit rfl (RC.back ?_)
      refine RC.seq ?_
      refine RC.region rfl ?_
      refine RL.ev (.move rfl) rfl rfl ?_
      refine RL.call rfl ok47 (c_sortNone none 0 _ w6) rfl rfl ?_
      rintro _ w8 ⟨rfl, s9⟩
      have S := S.trans s9
      have hb_2 := hb_2.sub s9
      refine RL.nil (RC.back ?_)
      refine RC.seq ?_
      refine RC.region rfl ?_
      refine RL.ev (.move rfl) rfl rfl ?_
      refine RL.ev (.assign rfl) rfl rfl ?_
      refine RL.ev (.assign rfl) rfl rfl ?_
      refine RL.nil (RC.back ?_)
      refine RC.done (rs := [.tmp 4, .tmp 5]) (vs := [_, _]) rfl rfl ⟨rfl, rfl, trivial⟩ ?_
      -- end 1
      exact ⟨rfl, S⟩
theorem inR_all {l : List It} (h : ∀ x ∈ l, keyOk x) : inR (-4611686018427387904) 4611686018427387904 l = l := by
  unfold inR
  rw [List.filter_eq_self]
  intro x hx
  have := h x hx
  unfold keyOk at this
  simp only [decide_eq_true_eq]
  omega
theorem kSrt_srt {l : List It} (h : kSrt l) (ha : Ap l) : Srt l := by
  unfold kSrt Ap Srt at *
  exact (h.and ha).imp (fun {x y} ⟨h1, h2⟩ => by omega)
set_option maxHeartbeats 2000000 in
theorem c_hold0 (A : Ar) (na fa : Option Addr) (nc fc : Nat) (hnc : A.nodes.length ≤ nc) (hfc : A.free.length ≤ fc) (R : Rt) (hR : R.ok) (h0 : R.h = 0) (m : Mo) (hC : IsC A R m) (w : World) (hA : ArR w na fa A) :
    FC Tryz.prog 14 [arV na fa nc fc A, R.val] w (fun v w' => Sub w w' ∧ ∃ p M, v = .tuple #[moV p m, .int .i64 0] ∧ MoS p m ∧ UpN w M ∧ Ft M (fun u => MoR u p m) w') := by
  obtain ⟨u1, u2, u3, u4⟩ := hR
  obtain ⟨T, t1, t2, t3, t4⟩ := hC.tab
  obtain ⟨P0, r1⟩ := hC.row
  have hh : m.heap = [] := by
    obtain ⟨Q, L, p1, p2⟩ := hC.heap
    rw [h0] at p1
    rw [((IsP.zero A).unique p1).2] at p2
    exact List.perm_nil.1 p2
  have hk1 : ∀ x ∈ m.map, keyOk x := fun x hx => hC.keys x (by simp [hx])
  have hl1 := hC.mapl
  have hrp := rowH_perm t1
  have hl2 : (rowH A R.t).length ≤ 200 := by rw [hrp.length_eq]; exact t3
  have hl3 := hC.rowl
  have hmt : ∀ l', l'.Perm (rowH A R.t) → kSrt l' → l' = m.tab := fun l' hp hs => by
    have hpT := hp.trans hrp
    exact srt_perm (kSrt_srt hs (t2.perm hpT.symm)) hC.tabs (hpT.trans t4.symm)
  have htl : m.tab.length = (rowH A R.t).length := by rw [t4.length_eq, hrp.length_eq]
  obtain ⟨rm, rt, rr, rh⟩ := R
  simp only [] at h0 u1 u2 u3 u4 t1 t2 t3 t4 r1 hrp hl2 hmt htl
  subst h0
  refine FC.intro Tryz.func14 rfl Tryz.ntmps14 rfl ?_
  have S := Sub.refl w
  refine RC.seq ?_
  refine RC.region rfl ?_
  refine RL.box rfl rfl rfl (fun b_2 w_2 e_2 z_2 hb_2 s_2 => ?_)
  have ge_2 := S.le e_2
  have S := S.trans s_2
  have hb_2 : Has w_2 b_2 ([.slice na A.nodes.length nc, .slice fa A.free.length fc]) _ := hb_2
  refine RL.box rfl rfl rfl (fun b_3 w_3 e_3 z_3 hb_3 s_3 => ?_)
  have ge_3 := S.le e_3
  have n_2__3 := hb_2.ne e_3
  have S := S.trans s_3
  have hb_2 := hb_2.sub s_3
  have hb_3 : Has w_3 b_3 ([.int .u64 rm, .int .u64 rt, .int .u64 rr, .int .u64 0]) _ := hb_3
  refine RL.alloc ze45 rfl rfl (fun b_4 w_4 e_4 z_4 hb_4 s_4 => ?_)
  have ge_4 := S.le e_4
  have n_2__4 := hb_2.ne e_4
  have n_3__4 := hb_3.ne e_4
  have S := S.trans s_4
  have hb_2 := hb_2.sub s_4
  have hb_3 := hb_3.sub s_4
  refine RL.ev (.assign rfl) rfl rfl ?_
  refine RL.nil (RC.back ?_)
  refine RC.seq ?_
  refine RC.region rfl ?_
  refine RL.ev (.loadR ([.slice na A.nodes.length nc, .slice fa A.free.length fc]) sh26 rfl hb_2.row rfl) rfl rfl ?_
  refine RL.ev (.field0 fo33_0 rfl) rfl rfl ?_
  refine RL.ev (.load1 sh31 rfl (hb_3.cell rfl)) rfl rfl ?_
  refine RL.call rfl ok43 (c_all A na fa nc fc rm u1 _ _ w_4 (hA.sub S)) rfl rfl ?_
  rintro _ w1 ⟨s2, a1, c1, rows1, e1, rfl, o1, _, hx1⟩
  obtain ⟨rfl, rfl⟩ := hx1 m.map hC.isMap hC.map
  rw [inR_all hk1, List.length_map] at o1
  rw [inR_all hk1, List.length_map]
  have k1 : m.map.length ≤ c1 := (by obtain ⟨_, c', e, h⟩ := o1.form; rw [List.length_map] at e h; simp only [Value.slice.injEq] at e; omega)
  have upA : UpN _ _ := (fun k hk => .inr (o1.ge k hk).1)
  have F1 := o1.ft.imp (fun u h => h.sl.1)
  have d_F1_b_2 := upNe upA (fun _ (h : False) => h.elim) hb_2.lt
  have d_F1_b_3 := upNe upA (fun _ (h : False) => h.elim) hb_3.lt
  have d_F1_b_4 := upNe upA (fun _ (h : False) => h.elim) hb_4.lt
  have up1 := upA.low S.size
  have S := S.trans s2
  have hb_2 := hb_2.sub s2
  have hb_3 := hb_3.sub s2
  have hb_4 := hb_4.sub s2
  refine RL.ev (.move rfl) rfl rfl ?_
  refine RL.ev (.as (v' := .slice a1 m.map.length c1) (.extract rfl rfl) (by rfl)) rfl rfl ?_
  refine RL.ev (.extract rfl rfl) rfl rfl ?_
  refine RL.ev (.assign rfl) rfl rfl ?_
  refine RL.ev (.assign rfl) rfl rfl ?_
  refine RL.nil (RC.back ?_)
  refine RC.seq ?_
  refine RC.region rfl ?_
  refine RL.ev (.loadR ([.slice na A.nodes.length nc, .slice fa A.free.length fc]) sh26 rfl hb_2.row rfl) rfl rfl ?_
  refine RL.ev (.field0 fo33_1 rfl) rfl rfl ?_
  refine RL.ev (.load1 sh31 rfl (hb_3.cell rfl)) rfl rfl ?_
  refine RL.call rfl ok15 (c_wAllO A na fa nc fc hnc hfc rt u2 w1 (hA.sub S)) rfl rfl ?_
  rintro _ w3 ⟨s4, a2, c2, rows2, e2, rfl, k2, o2, _, hx2⟩
  obtain ⟨rfl, rfl⟩ := hx2 hC.isTab
  have upB : UpN _ _ := (fun k hk => .inr (o2.ge k hk).1)
  have d24 : ∀ k, ob (.slice a2 (rowH A rt).length c2) = some k → k ≠ b_4 := (fun k hk e => by have h1 := (o2.ge k hk).1; have h2 := hb_4.lt; omega)
  have d21 : ∀ k, ob (.slice a1 m.map.length c1) = some k → ¬ ob (.slice a2 (rowH A rt).length c2) = some k := (fun k hk e => by have h1 := (o2.ge k e).1; have h2 := F1.lt k hk; omega)
  have up2 := upB.low S.size
  have o2 := o2.low S.size
  have S := S.trans s4
  have hb_2 := hb_2.sub s4
  have hb_3 := hb_3.sub s4
  have hb_4 := hb_4.sub s4
  have F1 := F1.sub s4
  refine RL.ev (.move rfl) rfl rfl ?_
  refine RL.ev (.as (v' := .slice a2 (rowH A rt).length c2) (.extract rfl rfl) (by rfl)) rfl rfl ?_
  refine RL.ev (.extract rfl rfl) rfl rfl ?_
  refine RL.ev (.assign rfl) rfl rfl ?_
  refine RL.ev (.assign rfl) rfl rfl ?_
  refine RL.nil (RC.back ?_)
  refine RC.seq ?_
  refine RC.region rfl ?_
  refine RL.ev (.loadR ([.slice na A.nodes.length nc, .slice fa A.free.length fc]) sh26 rfl hb_2.row rfl) rfl rfl ?_
  refine RL.ev (.field0 fo33_2 rfl) rfl rfl ?_
  refine RL.ev (.load1 sh31 rfl (hb_3.cell rfl)) rfl rfl ?_
  refine RL.call rfl ok44 (c_dRowO A na fa nc fc hnc hfc rr u3 w3 (hA.sub S)) rfl rfl ?_
  rintro _ w5 ⟨s6, a3, c3, V3, e3, rfl, k3, o3, _, hx3⟩
  obtain ⟨rfl, rfl⟩ := hx3 m.row P0 hC.isRow r1
  rw [List.length_map] at o3
  rw [List.length_map]
  have upC : UpN _ _ := (fun k hk => .inr (o3.ge k hk).1)
  have F3 := o3.ft.imp (fun u h => h.sl.1)
  have d_F3_b_2 := upNe upC (fun _ (h : False) => h.elim) hb_2.lt
  have d_F3_b_3 := upNe upC (fun _ (h : False) => h.elim) hb_3.lt
  have d_F3_b_4 := upNe upC (fun _ (h : False) => h.elim) hb_4.lt
  have dd_o2_F3 := upDD upC (fun _ _ (h : False) => h.elim) (fun k hk => (o2.ge k hk).2)
  have d23 : ∀ k, ob (.slice a3 m.row.length c3) = some k → ¬ ob (.slice a2 (rowH A rt).length c2) = some k := (fun k hk e => by have h1 := (o3.ge k hk).1; have h2 := (o2.ge k e).2; omega)
  have up3 := upC.low S.size
  have S := S.trans s6
  have hb_2 := hb_2.sub s6
  have hb_3 := hb_3.sub s6
  have hb_4 := hb_4.sub s6
  have F1 := F1.sub s6
  have o2 := o2.sub s6
  refine RL.ev (.move rfl) rfl rfl ?_
  refine RL.ev (.as (v' := .slice a3 m.row.length c3) (.extract rfl rfl) (by rfl)) rfl rfl ?_
  refine RL.ev (.extract rfl rfl) rfl rfl ?_
  refine RL.ev (.assign rfl) rfl rfl ?_
  refine RL.ev (.assign rfl) rfl rfl ?_
  refine RL.nil (RC.back ?_)
  refine RC.seq ?_
  refine RC.region rfl ?_
  refine RL.ev (.loadR ([.slice na A.nodes.length nc, .slice fa A.free.length fc]) sh26 rfl hb_2.row rfl) rfl rfl ?_
  refine RL.ev (.field0 fo33_3 rfl) rfl rfl ?_
  refine RL.ev (.load1 sh31 rfl (hb_3.cell rfl)) rfl rfl ?_
  refine RL.call rfl ok45 (c_hpItems0 A na fa nc fc hC.ok w5 (hA.sub S)) rfl rfl ?_
  rintro _ w7 ⟨rfl, s8⟩
  have S := S.trans s8
  have hb_2 := hb_2.sub s8
  have hb_3 := hb_3.sub s8
  have hb_4 := hb_4.sub s8
  have F1 := F1.sub s8
  have o2 := o2.sub s8
  have F3 := F3.sub s8
  refine RL.ev (.move rfl) rfl rfl ?_
  refine RL.ev (.as (v' := .slice none 0 0) (.extract rfl rfl) (by rfl)) rfl rfl ?_
  refine RL.ev (.extract rfl rfl) rfl rfl ?_
  refine RL.ev (.assign rfl) rfl rfl ?_
  refine RL.ev (.assign rfl) rfl rfl ?_
  refine RL.nil (RC.back ?_)
  refine RC.seq ?_
  refine RC.region rfl ?_
  refine RL.ev (.loadR ([.slice na A.nodes.length nc, .slice fa A.free.length fc]) sh26 rfl hb_2.row rfl) rfl rfl ?_
  refine RL.ev (.field0 fo33_0 rfl) rfl rfl ?_
  refine RL.ev (.load1 sh31 rfl (hb_3.cell rfl)) rfl rfl ?_
  refine RL.call rfl ok46 (c_oSize A na fa nc fc rm u1 w7 (hA.sub S)) rfl rfl ?_
  rintro _ w9 ⟨s10, n5, e5, rfl, _, hx5⟩
  obtain ⟨rfl, rfl⟩ := hx5 m.map hC.isMap hC.map
  have S := S.trans s10
  have hb_2 := hb_2.sub s10
  have hb_3 := hb_3.sub s10
  have hb_4 := hb_4.sub s10
  have F1 := F1.sub s10
  have o2 := o2.sub s10
  have F3 := F3.sub s10
  refine RL.ev (.move rfl) rfl rfl ?_
  refine RL.ev (.extract rfl rfl) rfl rfl ?_
  refine RL.ev (.extract rfl rfl) rfl rfl ?_
  refine RL.ev (.assign rfl) rfl rfl ?_
  refine RL.ev (.assign rfl) rfl rfl ?_
  refine RL.nil (RC.back ?_)
  refine RC.seq ?_
  refine RC.seq ?_
  refine RC.region rfl ?_
  refine RL.ev (.move rfl) rfl rfl ?_
  refine RL.ev (.as (v' := .bool false) (.bin rfl rfl rfl) (congrArg Value.bool (decide_eq_false (fun h => h rfl)))) rfl rfl ?_
  refine RL.ev (.move rfl) rfl rfl ?_
  refine RL.ev (.move rfl) rfl rfl ?_
  refine RL.ev (.as (v' := .bool false) (.bin rfl rfl rfl) (congrArg Value.bool (decide_eq_false (fun h => h rfl)))) rfl rfl ?_
  refine RL.ev (.pick_f rfl rfl) rfl rfl ?_
  refine RL.ev (.move rfl) rfl rfl ?_
  refine RL.ev (.move rfl) rfl rfl ?_
  refine RL.ev (.as (v' := .bool false) (.bin rfl rfl rfl) (congrArg Value.bool (decide_eq_false (fun h => h rfl)))) rfl rfl ?_
  refine RL.ev (.pick_f rfl rfl) rfl rfl ?_
  refine RL.ev (.move rfl) rfl rfl ?_
  refine RL.ev (.move rfl) rfl rfl ?_
  refine RL.ev (.as (v' := .bool false) (.bin rfl rfl rfl) (congrArg Value.bool (decide_eq_false (fun h => h rfl)))) rfl rfl ?_
  refine RL.ev (.pick_f rfl rfl) rfl rfl ?_
  refine RL.ev (.move rfl) rfl rfl ?_
  refine RL.ev (.move rfl) rfl rfl ?_
  refine RL.ev (.move rfl) rfl rfl ?_
  refine RL.ev (.len sl42 rfl) rfl rfl ?_
  refine RL.ev (.as (v' := .bool false) (.bin rfl rfl rfl) (congrArg Value.bool (decide_eq_false (fun h => h rfl)))) rfl rfl ?_
  refine RL.ev (.pick_f rfl rfl) rfl rfl ?_
  refine RL.nil (RC.back ?_)
  refine RC.cond_f rfl ?_
  refine RC.skip (RC.back ?_)
  refine RC.seq ?_
  refine RC.region rfl ?_
  refine RL.ev (.move rfl) rfl rfl ?_
  refine RL.call rfl ok47 (c_sortK (rowH A rt) (by omega) a2 c2 w.heap.size w9 o2) rfl rfl ?_
  rintro _ w11 ⟨rfl, ag, l', hp, hs, o2'⟩
  have S := S.agrN ag (fun k e => (o2.ge k e).1)
  have hb_4 := hb_4.step ag (fun e => d24 _ e rfl)
  have F1 := F1.step ag d21
  have F3 := F3.step ag d23
  have o2 := o2'
  obtain rfl := hmt l' hp hs
  have k2' : m.tab.length ≤ c2 := (by rw [htl]; exact k2)
  have hts : ∀ t ∈ ([⟨m.map, a1, c1⟩, ⟨m.tab, a2, c2⟩, ⟨[], none, 0⟩] : List Tri), t.l.length ≤ 1000 := (by intro t ht; simp only [List.mem_cons, List.not_mem_nil, or_false] at ht; rcases ht with rfl | rfl | rfl; show m.map.length ≤ 1000; omega; show m.tab.length ≤ 1000; omega; exact Nat.zero_le _)
  have hcat : catT [⟨m.map, a1, c1⟩, ⟨m.tab, a2, c2⟩, ⟨[], none, 0⟩] = m.map ++ m.tab := (by simp [catT])
  refine RL.nil (RC.back ?_)
  refine RC.seq ?_
  refine RC.seq ?_
  refine RC.region rfl ?_
  refine RL.ev (.move rfl) rfl rfl ?_
  refine RL.ev (.as (v' := .slice a2 m.tab.length c2) (.move rfl) (by rw [htl])) rfl rfl ?_
  refine RL.ev (.move rfl) rfl rfl ?_
  refine RL.buildSliceN (vs := [_, _, _]) sl191 _ ze42 rfl ⟨rfl, rfl, rfl, trivial⟩ rfl rfl rfl rfl rfl rfl (fun b_79 w_79 e_79 z_79 hb_79 s_79 => ?_)
  have ge_79 := S.le e_79
  have n_4__79 := hb_4.ne e_79
  have d_F1_b_79 := F1.neNew e_79
  have d_o2_b_79 := o2.neNew e_79
  have d_F3_b_79 := F3.neNew e_79
  have S := S.trans s_79
  have hb_4 := hb_4.sub s_79
  have F1 := F1.sub s_79
  have o2 := o2.sub s_79
  have F3 := F3.sub s_79
  refine RL.call rfl ok50 (c_concat [⟨m.map, a1, c1⟩, ⟨m.tab, a2, c2⟩, ⟨[], none, 0⟩] (by simp) hts (some ⟨b_79, 0, none⟩) 3 w_79 (Has.sl1 (enc := Tri.v) (l := [⟨m.map, a1, c1⟩, ⟨m.tab, a2, c2⟩, ⟨[], none, 0⟩]) hb_79) (by intro t ht; simp only [List.mem_cons, List.not_mem_nil, or_false] at ht; rcases ht with rfl | rfl | rfl; exact F1.now; exact o2.sl.1; exact Sl.nil _ _ _)) rfl rfl ?_
  rintro _ w13 ⟨s14, a8, c8, rfl, hc⟩
  rw [hcat] at hc
  rw [hcat]
  have S := S.trans s14
  have hb_4 := hb_4.sub s14
  have F1 := F1.sub s14
  have o2 := o2.sub s14
  have F3 := F3.sub s14
  have hb_79 := hb_79.sub s14
  obtain ⟨W1, S1, hc⟩ : ∃ W, Sub W w13 ∧ Sl W a8 2 ((m.map ++ m.tab).map It.cells) := ⟨_, Sub.refl _, hc⟩
  refine RL.ev (.len sl42 rfl) rfl rfl ?_
  refine RL.ev (.move rfl) rfl rfl ?_
  refine RL.nil (RC.back ?_)
  refine RC.block ?_
  refine RC.loop (α := Nat) (fun i => [(4, .pointer (some ⟨b_4, 0, none⟩)), (6, .slice a1 m.map.length c1), (8, .slice a2 (rowH A rt).length c2), (10, .slice a3 m.row.length c3), (12, .slice none 0 0), (80, .slice a8 (m.map ++ m.tab).length c8), (81, .int .i64 ((m.map ++ m.tab).length : Int)), (82, .int .i64 (i : Int))]) (fun i w15 => i ≤ (m.map ++ m.tab).length ∧ Has w15 b_4 [.slice none 0 0, .slice none 0 0, .slice none 0 0, .slice none 0 0] 45 ∧ Ft (fun k => ob (.slice a1 m.map.length c1) = some k) (fun u => Sl u a1 2 (m.map.map It.cells)) w15 ∧ Ft (fun k => ob (.slice a3 m.row.length c3) = some k) (fun u => Sl u a3 1 (m.row.map fun x => [i6 x])) w15 ∧ Ows w.heap.size w15 51 2 (.slice a2 (rowH A rt).length c2) (m.tab.map It.cells) ∧ Sub W1 w15 ∧ Sub w w15) (fun i => (m.map ++ m.tab).length - i) 0 (keep_of (by repeat (first | exact trivial | refine And.intro rfl ?_))) (⟨Nat.zero_le _, hb_4, F1, F3, o2, S1, S⟩) (fun i w15 hJ => ?_)
  obtain ⟨hi, hb_4, F1, F3, o2, S1, S⟩ := hJ; have hml : (m.map ++ m.tab).length ≤ 400 := (by rw [List.length_append]; omega)
  refine RC.seq ?_
  refine RC.region rfl ?_
  refine RL.ev (.bin rfl rfl rfl) rfl rfl ?_
  refine RL.nil (RC.back ?_)
  refine RC.seq ?_
  refine RC.cond_dec rfl (fun h16 => ?_) (fun h16 => ?_)
  ·
    obtain ⟨x, hx⟩ := getSome (l := m.map ++ m.tab) (i := i) (by omega)
    have hxk : keyOk x := hC.keys x (by have h9 := List.mem_of_getElem? hx; rw [hh, List.append_nil]; exact h9)
    unfold keyOk at hxk
    refine RC.skip (RC.back ?_)
    refine RC.seq ?_
    refine RC.block ?_
    refine RC.seq ?_
    refine RC.region rfl ?_
    refine RL.ev (.indexS sl42 rfl rfl (by omega) (hc.is (i := 0) (by simp only [List.length_map, List.length_cons, List.length_nil]; omega))) rfl rfl ?_
    refine RL.ev (.loadR (x.cells) sh51 rfl ((hc.sub S1).rowAt (enc := It.cells) (i := i) hx) rfl) rfl rfl ?_
    refine RL.alloc ze51 rfl rfl (fun b_17 w_17 e_17 z_17 hb_17 s_17 => ?_)
    have ge_17 := S.le e_17
    have n_4__17 := hb_4.ne e_17
    have d_F1_b_17 := F1.neNew e_17
    have d_F3_b_17 := F3.neNew e_17
    have d_o2_b_17 := o2.neNew e_17
    have S := S.trans s_17
    have geS1_17 := S1.le e_17
    have S1 := S1.trans s_17
    have hb_4 := hb_4.sub s_17
    have F1 := F1.sub s_17
    have F3 := F3.sub s_17
    have o2 := o2.sub s_17
    refine RL.store sh51 rfl rfl rfl hb_17 (by exact Nat.le_of_ble_eq_true rfl) (by rfl) rfl (fun w17 z17 hb_17 a17 => ?_)
    have S := S.upd a17 ge_17
    have S1 := S1.upd a17 geS1_17
    have hb_4 := hb_4.upd a17 n_4__17
    have F1 := F1.updD a17 d_F1_b_17
    have F3 := F3.updD a17 d_F3_b_17
    have o2 := o2.updD a17 d_o2_b_17
    have hb_17 : Has w17 b_17 (x.cells) _ := hb_17.now (by kernel_rfl)
    refine RL.nil (RC.back ?_)
    refine RC.seq ?_
    refine RC.region rfl ?_
    refine RL.ev (.field0 fo51_0 rfl) rfl rfl ?_
    refine RL.ev (.load1 sh2 rfl (hb_17.cell rfl)) rfl rfl ?_
    refine RL.ev (.bin rfl rfl rfl) rfl rfl ?_
    refine RL.ev (.move rfl) rfl rfl ?_
    refine RL.split 89 rfl (fun h18 => ?_) (fun h18 => ?_)
    ·
      exact absurd h18 (by omega)
    ·
      refine RL.ev (.field0 fo51_0 rfl) rfl rfl ?_
      refine RL.ev (.load1 sh2 rfl (hb_17.cell rfl)) rfl rfl ?_
      refine RL.ev (.bin rfl rfl rfl) rfl rfl ?_
      refine RL.ev (.pick_f rfl rfl) rfl rfl ?_
      refine RL.nil (RC.back ?_)
      refine RC.cond_dec rfl (fun h19 => ?_) (fun h19 => ?_)
      ·
        exact absurd h19 (by omega)
      ·
        refine RC.skip (RC.back ?_)
        refine RC.region rfl ?_
        refine RL.ev (.as (.bin rfl rfl rfl) (wi64 (y := ((i + 1 : Nat) : Int)) (by omega) (by omega))) rfl rfl ?_
        refine RL.ev (.move rfl) rfl rfl ?_
        exact RL.nil (fun a ka => ⟨i + 1, ⟨by omega, hb_4, F1, F3, o2, S1, S⟩, by omega, ka.keep (keep_of (by repeat (first | exact trivial | refine And.intro rfl ?_)))⟩)
  ·
    refine RC.exit rfl (RC.back ?_)
    refine RC.seq ?_
    refine RC.region rfl ?_
    refine RL.ev (.move rfl) rfl rfl ?_
    refine RL.ev (.as (v' := .slice a2 m.tab.length c2) (.move rfl) (by rw [htl])) rfl rfl ?_
    refine RL.ev (.move rfl) rfl rfl ?_
    refine RL.ev (.as (v' := .slice none m.heap.length 0) (.move rfl) (by rw [hh]; rfl)) rfl rfl ?_
    refine RL.ev (.buildS ze45 pl45 rfl rfl) rfl rfl ?_
    refine RL.store sh45 rfl rfl rfl hb_4 (by exact Nat.le_of_ble_eq_true rfl) (by rfl) rfl (fun w20 z20 hb_4 a20 => ?_)
    have S := S.upd a20 ge_4
    have F1 := F1.updD a20 d_F1_b_4
    have F3 := F3.updD a20 d_F3_b_4
    have o2 := o2.updD a20 d24
    have hb_4 : Has w20 b_4 (moC ⟨a1, c1, a2, c2, a3, c3, none, 0⟩ m) _ := hb_4.now (by kernel_rfl)
    refine RL.ev (.assign rfl) rfl rfl ?_
    refine RL.nil (RC.back ?_)
    refine RC.done (rs := [.cell 4 45, .tmp 5]) (vs := [_, _]) rfl rfl ⟨⟨_, rfl, .inr ⟨moC ⟨a1, c1, a2, c2, a3, c3, none, 0⟩ m, sh45, hb_4.row, rfl⟩⟩, rfl, trivial⟩ ?_
    -- end 1
    exact ⟨S, ⟨a1, c1, a2, c2, a3, c3, none, 0⟩, _, rfl, ⟨k1, k2', k3, by rw [hh]; exact Nat.le_refl _, by omega, by omega, by omega, by rw [hh]; exact Nat.zero_le _⟩, up1.or (up2.or up3), (F1.and (o2.ft.and F3)).imp fun u h => ⟨h.1, h.2.1.sl.1, h.2.2, by rw [hh]; exact Sl.nil _ _ _⟩⟩
end Go.Proofs.YtbjmllnddanniaaGreat
set_option linter.unusedVariables false
set_option linter.unusedSimpArgs false
namespace Go.Proofs.YtbjmllnddanniaaGreat
open Go Go.XL
/-- a world that is new -/
def WdNew (n m : Nat) (u : World) (y : WdP) (x : RcP) : Prop := ArR u y.na y.fa (newA m) ∧ y.nn = (newA m).nodes.length ∧ y.nn ≤ y.nc ∧ y.fn = (newA m).free.length ∧ y.fn ≤ y.fc ∧ TbNew n u y.tb x ∧
  ∃ b1 b2, y.aa = some ⟨b1, 0, none⟩ ∧ y.an = n ∧ y.ac = n ∧ y.wa = some ⟨b2, 0, none⟩ ∧ y.wn = n ∧ y.wc = n ∧ Has u b1 (List.replicate n [i0, i0, i0, i0, i0]).flatten 297 ∧ Has u b2 (List.replicate n wk0).flatten 90
set_option maxHeartbeats 400000 in
theorem c_uNew (n m : Nat) (hn : 1 ≤ n ∧ n ≤ 8) (hm : 1 ≤ m ∧ m ≤ 512) (w : World) :
    FC Tryz.prog 116 [.int .i64 (n : Int), .int .i64 (m : Int)] w (fun v w' => Sub w w' ∧ ∃ y x M, v = .tuple #[.agg y.cells.toArray, .int .i64 0] ∧ UpN w M ∧ Ft M (fun u => WdNew n m u y x) w') := by
  refine FC.intro Tryz.func116 rfl Tryz.ntmps116 rfl ?_
  have S := Sub.refl w
  refine RC.seq ?_
  refine RC.region rfl ?_
  refine RL.alloc ze63 rfl rfl (fun b_4 w_4 e_4 z_4 hb_4 s_4 => ?_)
  have ge_4 := S.le e_4
  have S := S.trans s_4
  refine RL.ev (.assign rfl) rfl rfl ?_
  refine RL.nil (RC.back ?_)
  refine RC.seq ?_
  refine RC.region rfl ?_
  refine RL.ev (.move rfl) rfl rfl ?_
  refine RL.call rfl ok189 (c_tNew n hn w_4) rfl rfl ?_
  rintro _ w1 ⟨s2, t, x, M, rfl, up, h1⟩
  have d_h1_b_4 := upNe up (fun _ (h : False) => h.elim) hb_4.lt
  have up := up.low S.size
  have S := S.trans s2
  have hb_4 := hb_4.sub s2
  refine RL.ev (.move rfl) rfl rfl ?_
  refine RL.ev (.extract rfl rfl) rfl rfl ?_
  refine RL.ev (.extract rfl rfl) rfl rfl ?_
  refine RL.alloc ze59 rfl rfl (fun b_6 w_6 e_6 z_6 hb_6 s_6 => ?_)
  have ge_6 := S.le e_6
  have n_4__6 := hb_4.ne e_6
  have d_h1_b_6 := h1.neNew e_6
  have S := S.trans s_6
  have hb_4 := hb_4.sub s_6
  have h1 := h1.sub s_6
  refine RL.store sh59 rfl rfl rfl hb_6 (by exact Nat.le_of_ble_eq_true rfl) (by rfl) rfl (fun w3 z3 hb_6 a3 => ?_)
  have S := S.upd a3 ge_6
  have hb_4 := hb_4.upd a3 n_4__6
  have h1 := h1.updD a3 d_h1_b_6
  have hb_6 : Has w3 b_6 (t.cells) _ := hb_6.now (by kernel_rfl)
  refine RL.ev (.assign rfl) rfl rfl ?_
  refine RL.nil (RC.back ?_)
  refine RC.seq ?_
  refine RC.seq ?_
  refine RC.region rfl ?_
  refine RL.ev (.move rfl) rfl rfl ?_
  refine RL.ev (.bin rfl rfl rfl) rfl rfl ?_
  refine RL.nil (RC.back ?_)
  refine RC.cond_dec rfl (fun h4 => ?_) (fun h4 => ?_)
  ·
    exact absurd rfl h4
  ·
    refine RC.skip (RC.back ?_)
    refine RC.seq ?_
    refine RC.region rfl ?_
    refine RL.ev (.move rfl) rfl rfl ?_
    refine RL.call rfl ok10 (c_aNew m hm w3) rfl rfl ?_
    rintro _ w5 ⟨na, fa, nc, fc, rfl, hnc, hfc, hi, s6⟩
    have up2 := Mnew_up s6
    have h2 := Ft.new hi s6
    have d_h2_b_4 := upNe up2 (fun _ (h : False) => h.elim) hb_4.lt
    have d_h2_b_6 := upNe up2 (fun _ (h : False) => h.elim) hb_6.lt
    have up2 := up2.low S.size
    have S := S.trans s6
    have hb_4 := hb_4.sub s6
    have h1 := h1.sub s6
    have hb_6 := hb_6.sub s6
    refine RL.ev (.move rfl) rfl rfl ?_
    refine RL.ev (.extract rfl rfl) rfl rfl ?_
    refine RL.ev (.extract rfl rfl) rfl rfl ?_
    refine RL.alloc ze26 rfl rfl (fun b_8 w_8 e_8 z_8 hb_8 s_8 => ?_)
    have ge_8 := S.le e_8
    have n_4__8 := hb_4.ne e_8
    have n_6__8 := hb_6.ne e_8
    have d_h1_b_8 := h1.neNew e_8
    have d_h2_b_8 := h2.neNew e_8
    have S := S.trans s_8
    have hb_4 := hb_4.sub s_8
    have h1 := h1.sub s_8
    have hb_6 := hb_6.sub s_8
    have h2 := h2.sub s_8
    refine RL.store sh26 rfl rfl rfl hb_8 (by exact Nat.le_of_ble_eq_true rfl) (by rfl) rfl (fun w7 z7 hb_8 a7 => ?_)
    have S := S.upd a7 ge_8
    have hb_4 := hb_4.upd a7 n_4__8
    have h1 := h1.updD a7 d_h1_b_8
    have hb_6 := hb_6.upd a7 n_6__8
    have h2 := h2.updD a7 d_h2_b_8
    have hb_8 : Has w7 b_8 ([.slice na (newA m).nodes.length nc, .slice fa (newA m).free.length fc]) _ := hb_8.now (by kernel_rfl)
    refine RL.ev (.assign rfl) rfl rfl ?_
    refine RL.nil (RC.back ?_)
    refine RC.seq ?_
    refine RC.seq ?_
    refine RC.region rfl ?_
    refine RL.ev (.move rfl) rfl rfl ?_
    refine RL.ev (.bin rfl rfl rfl) rfl rfl ?_
    refine RL.nil (RC.back ?_)
    refine RC.cond_dec rfl (fun h8 => ?_) (fun h8 => ?_)
    ·
      exact absurd rfl h8
    ·
      refine RC.skip (RC.back ?_)
      refine RC.seq ?_
      refine RC.drawD (fun k => k = b_4) [7] w7.heap.size 9 rfl rfl mxo (fun w9 s10 => ?_)
      have hNN : ∀ k, ((k = b_4) ∨ w7.heap.size ≤ k) → w.heap.size ≤ k := fun k e => e.elim (fun e => e ▸ ge_4) (fun e => Nat.le_trans S.size e)
      have ent_S := S.size
      have hN0 : ∀ k, w7.heap.size ≤ k → w.heap.size ≤ k := fun k e => Nat.le_trans S.size e
      have ltD_b_4 := hb_4.lt
      have ltD_h1 := fun k hk => (h1.ge k hk).2
      have ltD_b_6 := hb_6.lt
      have ltD_h2 := fun k hk => (h2.ge k hk).2
      have ltD_b_8 := hb_8.lt
      have szD := Nat.le_refl w7.heap.size
      have S := S.trans s10
      have hb_4 := hb_4.sub s10
      have h1 := h1.sub s10
      have hb_6 := hb_6.sub s10
      have h2 := h2.sub s10
      have hb_8 := hb_8.sub s10
      have szD := Nat.le_trans szD s10.size
      refine RD.take 0 rfl (by kernel_rfl) (by kernel_rfl) (by kernel_rfl) (fun w' s' => .loadR ([.slice na (newA m).nodes.length nc, .slice fa (newA m).free.length fc]) sh26 rfl (hb_8.step s' (fun e => e.elim (fun e => n_4__8.symm e) (fun e => Nat.not_le.2 ltD_b_8 e))).row rfl) rfl rfl ?_
      refine RD.take 1 rfl (by kernel_rfl) (by kernel_rfl) (by kernel_rfl) (fun w' s' => .loadR (t.cells) sh59 rfl (hb_6.step s' (fun e => e.elim (fun e => n_4__6.symm e) (fun e => Nat.not_le.2 ltD_b_6 e))).row rfl) rfl rfl ?_
      refine RD.take 2 rfl (by kernel_rfl) (by kernel_rfl) (by kernel_rfl) (fun w' s' => .move rfl) rfl rfl ?_
      refine RD.take 4 rfl (by kernel_rfl) (by kernel_rfl) (by kernel_rfl) (fun w' s' => .move rfl) rfl rfl ?_
      refine RD.all [3, 5] (by kernel_rfl) rfl (RDs.cons rfl ?_ (RDs.cons rfl ?_ (RDs.nil)))
      ·
        refine RL.makeSlice sl60 ze297 rfl rfl rfl rfl (by omega) rfl rfl (fun b_30 w_30 e_30 z_30 hb_30 s_30 => ?_)
        have fr_b_30 : w7.heap.size ≤ b_30 := by rw [e_30]; exact szD
        have ge_30 := S.le e_30
        have n_4__30 := hb_4.ne e_30
        have n_6__30 := hb_6.ne e_30
        have n_8__30 := hb_8.ne e_30
        have d_h1_b_30 := h1.neNew e_30
        have d_h2_b_30 := h2.neNew e_30
        have S := S.trans s_30
        have hb_4 := hb_4.sub s_30
        have h1 := h1.sub s_30
        have hb_6 := hb_6.sub s_30
        have h2 := h2.sub s_30
        have hb_8 := hb_8.sub s_30
        have szD := Nat.le_trans szD s_30.size
        have hb_30 : Has w_30 b_30 (List.replicate n [i0, i0, i0, i0, i0]).flatten 297 := (by have := hb_30; rw [Int.toNat_natCast] at this; exact this)
        refine RD.back s_30.agr ?_
        refine RD.all [5] (by kernel_rfl) rfl (RDs.cons rfl ?_ (RDs.nil))
        refine RL.makeSlice sl61 ze90 rfl rfl rfl rfl (by omega) rfl rfl (fun b_32 w_32 e_32 z_32 hb_32 s_32 => ?_)
        have fr_b_32 : w7.heap.size ≤ b_32 := by rw [e_32]; exact szD
        have ge_32 := S.le e_32
        have n_4__32 := hb_4.ne e_32
        have n_6__32 := hb_6.ne e_32
        have n_8__32 := hb_8.ne e_32
        have n_30__32 := hb_30.ne e_32
        have d_h1_b_32 := h1.neNew e_32
        have d_h2_b_32 := h2.neNew e_32
        have S := S.trans s_32
        have hb_4 := hb_4.sub s_32
        have h1 := h1.sub s_32
        have hb_6 := hb_6.sub s_32
        have h2 := h2.sub s_32
        have hb_8 := hb_8.sub s_32
        have szD := Nat.le_trans szD s_32.size
        have hb_30 := hb_30.sub s_32
        have hb_32 : Has w_32 b_32 (List.replicate n wk0).flatten 90 := (by have := hb_32; rw [Int.toNat_natCast] at this; exact this)
        refine RD.back s_32.agr ?_
        refine RD.take 6 rfl (by kernel_rfl) (by kernel_rfl) (by kernel_rfl) (fun w' s' => .buildS (vs := [(0, .agg #[.slice na (newA m).nodes.length nc, .slice fa (newA m).free.length fc]), (1, .agg t.cells.toArray), (2, .slice (some ⟨b_30, 0, none⟩) n n), (3, .slice (some ⟨b_32, 0, none⟩) n n)]) (cs := ((⟨na, (newA m).nodes.length, nc, fa, (newA m).free.length, fc, t, some ⟨b_30, 0, none⟩, n, n, some ⟨b_32, 0, none⟩, n, n⟩ : WdP).cells).toArray) ze63 pl63 rfl (by kernel_rfl)) rfl rfl ?_
        refine RD.all [7] (by kernel_rfl) rfl (RDs.cons rfl ?_ (RDs.nil))
        refine RL.store sh63 rfl rfl rfl hb_4 (by exact Nat.le_of_ble_eq_true rfl) (by rfl) rfl (fun w11 z11 hb_4 a11 => ?_)
        have S := S.upd a11 ge_4
        have h1 := h1.updD a11 d_h1_b_4
        have hb_6 := hb_6.upd a11 n_4__6.symm
        have h2 := h2.updD a11 d_h2_b_4
        have hb_8 := hb_8.upd a11 n_4__8.symm
        have szD := Nat.le_trans szD a11.size
        have hb_30 := hb_30.upd a11 n_4__30.symm
        have hb_32 := hb_32.upd a11 n_4__32.symm
        have hb_4 : Has w11 b_4 ((⟨na, (newA m).nodes.length, nc, fa, (newA m).free.length, fc, t, some ⟨b_30, 0, none⟩, n, n, some ⟨b_32, 0, none⟩, n, n⟩ : WdP).cells) _ := hb_4.now (by kernel_rfl)
        refine RD.backW rfl (a11.mono fun k _ e => e ▸ (.inl (rfl))) ?_
        refine RD.take 8 rfl (by kernel_rfl) (by kernel_rfl) (by kernel_rfl) (fun w' s' => .assign rfl) rfl rfl ?_
        refine RD.done (by kernel_rfl) (RC.back ?_)
        refine RC.done (rs := [.cell 4 63, .tmp 5]) (vs := [_, _]) rfl rfl ⟨⟨_, rfl, .inr ⟨(⟨na, (newA m).nodes.length, nc, fa, (newA m).free.length, fc, t, some ⟨b_30, 0, none⟩, n, n, some ⟨b_32, 0, none⟩, n, n⟩ : WdP).cells, sh63, hb_4.row, rfl⟩⟩, rfl, trivial⟩ ?_
        -- end 1
        exact ⟨S, _, x, _, rfl, (UpN.one ge_30).or ((UpN.one ge_32).or (up.or up2)), (hb_30.ft.and (hb_32.ft.and (h1.and h2))).imp fun u h => ⟨h.2.2.2, rfl, hnc, rfl, hfc, h.2.2.1, b_30, b_32, rfl, rfl, rfl, rfl, rfl, rfl, h.1, h.2.1⟩⟩
      ·
        refine RL.makeSlice sl61 ze90 rfl rfl rfl rfl (by omega) rfl rfl (fun b_32 w_32 e_32 z_32 hb_32 s_32 => ?_)
        have fr_b_32 : w7.heap.size ≤ b_32 := by rw [e_32]; exact szD
        have ge_32 := S.le e_32
        have n_4__32 := hb_4.ne e_32
        have n_6__32 := hb_6.ne e_32
        have n_8__32 := hb_8.ne e_32
        have d_h1_b_32 := h1.neNew e_32
        have d_h2_b_32 := h2.neNew e_32
        have S := S.trans s_32
        have hb_4 := hb_4.sub s_32
        have h1 := h1.sub s_32
        have hb_6 := hb_6.sub s_32
        have h2 := h2.sub s_32
        have hb_8 := hb_8.sub s_32
        have szD := Nat.le_trans szD s_32.size
        have hb_32 : Has w_32 b_32 (List.replicate n wk0).flatten 90 := (by have := hb_32; rw [Int.toNat_natCast] at this; exact this)
        refine RD.back s_32.agr ?_
        refine RD.all [3] (by kernel_rfl) rfl (RDs.cons rfl ?_ (RDs.nil))
        refine RL.makeSlice sl60 ze297 rfl rfl rfl rfl (by omega) rfl rfl (fun b_30 w_30 e_30 z_30 hb_30 s_30 => ?_)
        have fr_b_30 : w7.heap.size ≤ b_30 := by rw [e_30]; exact szD
        have ge_30 := S.le e_30
        have n_4__30 := hb_4.ne e_30
        have n_6__30 := hb_6.ne e_30
        have n_8__30 := hb_8.ne e_30
        have n_32__30 := hb_32.ne e_30
        have d_h1_b_30 := h1.neNew e_30
        have d_h2_b_30 := h2.neNew e_30
        have S := S.trans s_30
        have hb_4 := hb_4.sub s_30
        have h1 := h1.sub s_30
        have hb_6 := hb_6.sub s_30
        have h2 := h2.sub s_30
        have hb_8 := hb_8.sub s_30
        have szD := Nat.le_trans szD s_30.size
        have hb_32 := hb_32.sub s_30
        have hb_30 : Has w_30 b_30 (List.replicate n [i0, i0, i0, i0, i0]).flatten 297 := (by have := hb_30; rw [Int.toNat_natCast] at this; exact this)
        refine RD.back s_30.agr ?_
        refine RD.take 6 rfl (by kernel_rfl) (by kernel_rfl) (by kernel_rfl) (fun w' s' => .buildS (vs := [(0, .agg #[.slice na (newA m).nodes.length nc, .slice fa (newA m).free.length fc]), (1, .agg t.cells.toArray), (2, .slice (some ⟨b_30, 0, none⟩) n n), (3, .slice (some ⟨b_32, 0, none⟩) n n)]) (cs := ((⟨na, (newA m).nodes.length, nc, fa, (newA m).free.length, fc, t, some ⟨b_30, 0, none⟩, n, n, some ⟨b_32, 0, none⟩, n, n⟩ : WdP).cells).toArray) ze63 pl63 rfl (by kernel_rfl)) rfl rfl ?_
        refine RD.all [7] (by kernel_rfl) rfl (RDs.cons rfl ?_ (RDs.nil))
        refine RL.store sh63 rfl rfl rfl hb_4 (by exact Nat.le_of_ble_eq_true rfl) (by rfl) rfl (fun w12 z12 hb_4 a12 => ?_)
        have S := S.upd a12 ge_4
        have h1 := h1.updD a12 d_h1_b_4
        have hb_6 := hb_6.upd a12 n_4__6.symm
        have h2 := h2.updD a12 d_h2_b_4
        have hb_8 := hb_8.upd a12 n_4__8.symm
        have szD := Nat.le_trans szD a12.size
        have hb_32 := hb_32.upd a12 n_4__32.symm
        have hb_30 := hb_30.upd a12 n_4__30.symm
        have hb_4 : Has w12 b_4 ((⟨na, (newA m).nodes.length, nc, fa, (newA m).free.length, fc, t, some ⟨b_30, 0, none⟩, n, n, some ⟨b_32, 0, none⟩, n, n⟩ : WdP).cells) _ := hb_4.now (by kernel_rfl)
        refine RD.backW rfl (a12.mono fun k _ e => e ▸ (.inl (rfl))) ?_
        refine RD.take 8 rfl (by kernel_rfl) (by kernel_rfl) (by kernel_rfl) (fun w' s' => .assign rfl) rfl rfl ?_
        refine RD.done (by kernel_rfl) (RC.back ?_)
        refine RC.done (rs := [.cell 4 63, .tmp 5]) (vs := [_, _]) rfl rfl ⟨⟨_, rfl, .inr ⟨(⟨na, (newA m).nodes.length, nc, fa, (newA m).free.length, fc, t, some ⟨b_30, 0, none⟩, n, n, some ⟨b_32, 0, none⟩, n, n⟩ : WdP).cells, sh63, hb_4.row, rfl⟩⟩, rfl, trivial⟩ ?_
        -- end 2
        exact ⟨S, _, x, _, rfl, (UpN.one ge_30).or ((UpN.one ge_32).or (up.or up2)), (hb_30.ft.and (hb_32.ft.and (h1.and h2))).imp fun u h => ⟨h.2.2.2, rfl, hnc, rfl, hfc, h.2.2.1, b_30, b_32, rfl, rfl, rfl, rfl, rfl, rfl, h.1, h.2.1⟩⟩
/-- a store that is new -/
def StNew (n m : Nat) (u : World) (z : StP) (x : RcP) : Prop := WdNew n m u z.wd x ∧ z.time = 0 ∧ z.la = none ∧ z.ln = 0 ∧ z.lc = 0 ∧
  ∃ b1 b2, z.ia = some ⟨b1, 0, none⟩ ∧ z.inn = n ∧ z.ic = n ∧ z.ca = some ⟨b2, 0, none⟩ ∧ z.cn = 8 ∧ z.cc = 8 ∧ Has u b1 (List.replicate n [i0]).flatten 3 ∧ Has u b2 (List.replicate 8 ([.int .u64 0, i0, i0, .bool true] : List Value)).flatten 97
set_option maxHeartbeats 400000 in
theorem c_sNew (n m : Nat) (hn : 1 ≤ n ∧ n ≤ 8) (hm : 1 ≤ m ∧ m ≤ 512) (w : World) :
    FC Tryz.prog 56 [.int .i64 (n : Int), .int .i64 (m : Int)] w (fun v w' => Sub w w' ∧ ∃ z x M, v = .tuple #[.agg z.cells.toArray, .int .i64 0] ∧ UpN w M ∧ Ft M (fun u => StNew n m u z x) w') := by
  refine FC.intro Tryz.func56 rfl Tryz.ntmps56 rfl ?_
  have S := Sub.refl w
  refine RC.seq ?_
  refine RC.region rfl ?_
  refine RL.alloc ze67 rfl rfl (fun b_4 w_4 e_4 z_4 hb_4 s_4 => ?_)
  have ge_4 := S.le e_4
  have S := S.trans s_4
  refine RL.ev (.assign rfl) rfl rfl ?_
  refine RL.nil (RC.back ?_)
  refine RC.seq ?_
  refine RC.region rfl ?_
  refine RL.ev (.move rfl) rfl rfl ?_
  refine RL.ev (.move rfl) rfl rfl ?_
  refine RL.call rfl ok116 (c_uNew n m hn hm w_4) rfl rfl ?_
  rintro _ w1 ⟨s2, y, x, M, rfl, up, h1⟩
  have d_h1_b_4 := upNe up (fun _ (h : False) => h.elim) hb_4.lt
  have up := up.low S.size
  have S := S.trans s2
  have hb_4 := hb_4.sub s2
  refine RL.ev (.move rfl) rfl rfl ?_
  refine RL.ev (.extract rfl rfl) rfl rfl ?_
  refine RL.ev (.extract rfl rfl) rfl rfl ?_
  refine RL.alloc ze63 rfl rfl (fun b_6 w_6 e_6 z_6 hb_6 s_6 => ?_)
  have ge_6 := S.le e_6
  have n_4__6 := hb_4.ne e_6
  have d_h1_b_6 := h1.neNew e_6
  have S := S.trans s_6
  have hb_4 := hb_4.sub s_6
  have h1 := h1.sub s_6
  refine RL.store sh63 rfl rfl rfl hb_6 (by exact Nat.le_of_ble_eq_true rfl) (by rfl) rfl (fun w3 z3 hb_6 a3 => ?_)
  have S := S.upd a3 ge_6
  have hb_4 := hb_4.upd a3 n_4__6
  have h1 := h1.updD a3 d_h1_b_6
  have hb_6 : Has w3 b_6 (y.cells) _ := hb_6.now (by kernel_rfl)
  refine RL.ev (.assign rfl) rfl rfl ?_
  refine RL.nil (RC.back ?_)
  refine RC.seq ?_
  refine RC.seq ?_
  refine RC.region rfl ?_
  refine RL.ev (.move rfl) rfl rfl ?_
  refine RL.ev (.bin rfl rfl rfl) rfl rfl ?_
  refine RL.nil (RC.back ?_)
  refine RC.cond_dec rfl (fun h4 => ?_) (fun h4 => ?_)
  ·
    exact absurd rfl h4
  ·
    refine RC.skip (RC.back ?_)
    refine RC.seq ?_
    refine RC.drawD (fun k => k = b_4) [7] w3.heap.size 9 rfl rfl mxo (fun w5 s6 => ?_)
    have hNN : ∀ k, ((k = b_4) ∨ w3.heap.size ≤ k) → w.heap.size ≤ k := fun k e => e.elim (fun e => e ▸ ge_4) (fun e => Nat.le_trans S.size e)
    have ent_S := S.size
    have hN0 : ∀ k, w3.heap.size ≤ k → w.heap.size ≤ k := fun k e => Nat.le_trans S.size e
    have ltD_b_4 := hb_4.lt
    have ltD_h1 := fun k hk => (h1.ge k hk).2
    have ltD_b_6 := hb_6.lt
    have szD := Nat.le_refl w3.heap.size
    have S := S.trans s6
    have hb_4 := hb_4.sub s6
    have h1 := h1.sub s6
    have hb_6 := hb_6.sub s6
    have szD := Nat.le_trans szD s6.size
    refine RD.take 0 rfl (by kernel_rfl) (by kernel_rfl) (by kernel_rfl) (fun w' s' => .loadR (y.cells) sh63 rfl (hb_6.step s' (fun e => e.elim (fun e => n_4__6.symm e) (fun e => Nat.not_le.2 ltD_b_6 e))).row rfl) rfl rfl ?_
    refine RD.take 1 rfl (by kernel_rfl) (by kernel_rfl) (by kernel_rfl) (fun w' s' => .move rfl) rfl rfl ?_
    refine RD.take 3 rfl (by kernel_rfl) (by kernel_rfl) (by kernel_rfl) (fun w' s' => .buildS ze97 pl97 rfl rfl) rfl rfl ?_
    refine RD.all [2, 4] (by kernel_rfl) rfl (RDs.cons rfl ?_ (RDs.cons rfl ?_ (RDs.nil)))
    ·
      refine RL.makeSlice sl24 ze3 rfl rfl rfl rfl (by omega) rfl rfl (fun b_20 w_20 e_20 z_20 hb_20 s_20 => ?_)
      have fr_b_20 : w3.heap.size ≤ b_20 := by rw [e_20]; exact szD
      have ge_20 := S.le e_20
      have n_4__20 := hb_4.ne e_20
      have n_6__20 := hb_6.ne e_20
      have d_h1_b_20 := h1.neNew e_20
      have S := S.trans s_20
      have hb_4 := hb_4.sub s_20
      have h1 := h1.sub s_20
      have hb_6 := hb_6.sub s_20
      have szD := Nat.le_trans szD s_20.size
      have hb_20 : Has w_20 b_20 (List.replicate n [i0]).flatten 3 := (by have := hb_20; rw [Int.toNat_natCast] at this; exact this)
      refine RD.back s_20.agr ?_
      refine RD.all [4] (by kernel_rfl) rfl (RDs.cons rfl ?_ (RDs.nil))
      refine RL.buildSlice1 sl65 _ ze97 rfl rfl rfl rfl rfl rfl rfl (fun b_22 w_22 e_22 z_22 hb_22 s_22 => ?_)
      have fr_b_22 : w3.heap.size ≤ b_22 := by rw [e_22]; exact szD
      have ge_22 := S.le e_22
      have n_4__22 := hb_4.ne e_22
      have n_6__22 := hb_6.ne e_22
      have n_20__22 := hb_20.ne e_22
      have d_h1_b_22 := h1.neNew e_22
      have S := S.trans s_22
      have hb_4 := hb_4.sub s_22
      have h1 := h1.sub s_22
      have hb_6 := hb_6.sub s_22
      have szD := Nat.le_trans szD s_22.size
      have hb_20 := hb_20.sub s_22
      refine RD.back s_22.agr ?_
      refine RD.all [5] (by kernel_rfl) rfl (RDs.cons rfl ?_ (RDs.nil))
      refine RL.call rfl ok117 (c_repC 8 (by omega) b_22 w_22 hb_22) rfl rfl ?_
      rintro _ w7 ⟨s8, b3, rfl, ge3, h3⟩
      have n3_4 : b3 ≠ b_4 := (by have := hb_4.lt; omega)
      have ge3 := Nat.le_trans S.size ge3
      have S := S.trans s8
      have hb_4 := hb_4.sub s8
      have h1 := h1.sub s8
      have hb_6 := hb_6.sub s8
      have szD := Nat.le_trans szD s8.size
      have hb_20 := hb_20.sub s8
      have hb_22 := hb_22.sub s8
      refine RD.back s8.agr ?_
      refine RD.take 6 rfl (by kernel_rfl) (by kernel_rfl) (by kernel_rfl) (fun w' s' => .buildS (vs := [(0, .agg y.cells.toArray), (2, .slice (some ⟨b_20, 0, none⟩) n n), (4, .slice (some ⟨b3, 0, none⟩) 8 8)]) (cs := ((⟨y, 0, some ⟨b_20, 0, none⟩, n, n, none, 0, 0, some ⟨b3, 0, none⟩, 8, 8⟩ : StP).cells).toArray) ze67 pl67 rfl (by kernel_rfl)) rfl rfl ?_
      refine RD.all [7] (by kernel_rfl) rfl (RDs.cons rfl ?_ (RDs.nil))
      refine RL.store sh67 rfl rfl rfl hb_4 (by exact Nat.le_of_ble_eq_true rfl) (by rfl) rfl (fun w9 z9 hb_4 a9 => ?_)
      have S := S.upd a9 ge_4
      have h1 := h1.updD a9 d_h1_b_4
      have hb_6 := hb_6.upd a9 n_4__6.symm
      have szD := Nat.le_trans szD a9.size
      have hb_20 := hb_20.upd a9 n_4__20.symm
      have hb_22 := hb_22.upd a9 n_4__22.symm
      have h3 := h3.upd a9 n3_4
      have hb_4 : Has w9 b_4 ((⟨y, 0, some ⟨b_20, 0, none⟩, n, n, none, 0, 0, some ⟨b3, 0, none⟩, 8, 8⟩ : StP).cells) _ := hb_4.now (by kernel_rfl)
      refine RD.backW rfl (a9.mono fun k _ e => e ▸ (.inl (rfl))) ?_
      refine RD.take 8 rfl (by kernel_rfl) (by kernel_rfl) (by kernel_rfl) (fun w' s' => .assign rfl) rfl rfl ?_
      refine RD.done (by kernel_rfl) (RC.back ?_)
      refine RC.done (rs := [.cell 4 67, .tmp 5]) (vs := [_, _]) rfl rfl ⟨⟨_, rfl, .inr ⟨(⟨y, 0, some ⟨b_20, 0, none⟩, n, n, none, 0, 0, some ⟨b3, 0, none⟩, 8, 8⟩ : StP).cells, sh67, hb_4.row, rfl⟩⟩, rfl, trivial⟩ ?_
      -- end 1
      exact ⟨S, _, x, _, rfl, (UpN.one ge_20).or ((UpN.one ge3).or up), (hb_20.ft.and (h3.ft.and h1)).imp fun u h => ⟨h.2.2, rfl, rfl, rfl, rfl, b_20, b3, rfl, rfl, rfl, rfl, rfl, rfl, h.1, h.2.1⟩⟩
    ·
      refine RL.buildSlice1 sl65 _ ze97 rfl rfl rfl rfl rfl rfl rfl (fun b_22 w_22 e_22 z_22 hb_22 s_22 => ?_)
      have fr_b_22 : w3.heap.size ≤ b_22 := by rw [e_22]; exact szD
      have ge_22 := S.le e_22
      have n_4__22 := hb_4.ne e_22
      have n_6__22 := hb_6.ne e_22
      have d_h1_b_22 := h1.neNew e_22
      have S := S.trans s_22
      have hb_4 := hb_4.sub s_22
      have h1 := h1.sub s_22
      have hb_6 := hb_6.sub s_22
      have szD := Nat.le_trans szD s_22.size
      refine RD.back s_22.agr ?_
      refine RD.all [2, 5] (by kernel_rfl) rfl (RDs.cons rfl ?_ (RDs.cons rfl ?_ (RDs.nil)))
      ·
        refine RL.makeSlice sl24 ze3 rfl rfl rfl rfl (by omega) rfl rfl (fun b_20 w_20 e_20 z_20 hb_20 s_20 => ?_)
        have fr_b_20 : w3.heap.size ≤ b_20 := by rw [e_20]; exact szD
        have ge_20 := S.le e_20
        have n_4__20 := hb_4.ne e_20
        have n_6__20 := hb_6.ne e_20
        have n_22__20 := hb_22.ne e_20
        have d_h1_b_20 := h1.neNew e_20
        have S := S.trans s_20
        have hb_4 := hb_4.sub s_20
        have h1 := h1.sub s_20
        have hb_6 := hb_6.sub s_20
        have szD := Nat.le_trans szD s_20.size
        have hb_22 := hb_22.sub s_20
        have hb_20 : Has w_20 b_20 (List.replicate n [i0]).flatten 3 := (by have := hb_20; rw [Int.toNat_natCast] at this; exact this)
        refine RD.back s_20.agr ?_
        refine RD.all [5] (by kernel_rfl) rfl (RDs.cons rfl ?_ (RDs.nil))
        refine RL.call rfl ok117 (c_repC 8 (by omega) b_22 w_20 hb_22) rfl rfl ?_
        rintro _ w10 ⟨s11, b3, rfl, ge3, h3⟩
        have n3_4 : b3 ≠ b_4 := (by have := hb_4.lt; omega)
        have ge3 := Nat.le_trans S.size ge3
        have S := S.trans s11
        have hb_4 := hb_4.sub s11
        have h1 := h1.sub s11
        have hb_6 := hb_6.sub s11
        have szD := Nat.le_trans szD s11.size
        have hb_22 := hb_22.sub s11
        have hb_20 := hb_20.sub s11
        refine RD.back s11.agr ?_
        refine RD.take 6 rfl (by kernel_rfl) (by kernel_rfl) (by kernel_rfl) (fun w' s' => .buildS (vs := [(0, .agg y.cells.toArray), (2, .slice (some ⟨b_20, 0, none⟩) n n), (4, .slice (some ⟨b3, 0, none⟩) 8 8)]) (cs := ((⟨y, 0, some ⟨b_20, 0, none⟩, n, n, none, 0, 0, some ⟨b3, 0, none⟩, 8, 8⟩ : StP).cells).toArray) ze67 pl67 rfl (by kernel_rfl)) rfl rfl ?_
        refine RD.all [7] (by kernel_rfl) rfl (RDs.cons rfl ?_ (RDs.nil))
        refine RL.store sh67 rfl rfl rfl hb_4 (by exact Nat.le_of_ble_eq_true rfl) (by rfl) rfl (fun w12 z12 hb_4 a12 => ?_)
        have S := S.upd a12 ge_4
        have h1 := h1.updD a12 d_h1_b_4
        have hb_6 := hb_6.upd a12 n_4__6.symm
        have szD := Nat.le_trans szD a12.size
        have hb_22 := hb_22.upd a12 n_4__22.symm
        have hb_20 := hb_20.upd a12 n_4__20.symm
        have h3 := h3.upd a12 n3_4
        have hb_4 : Has w12 b_4 ((⟨y, 0, some ⟨b_20, 0, none⟩, n, n, none, 0, 0, some ⟨b3, 0, none⟩, 8, 8⟩ : StP).cells) _ := hb_4.now (by kernel_rfl)
        refine RD.backW rfl (a12.mono fun k _ e => e ▸ (.inl (rfl))) ?_
        refine RD.take 8 rfl (by kernel_rfl) (by kernel_rfl) (by kernel_rfl) (fun w' s' => .assign rfl) rfl rfl ?_
        refine RD.done (by kernel_rfl) (RC.back ?_)
        refine RC.done (rs := [.cell 4 67, .tmp 5]) (vs := [_, _]) rfl rfl ⟨⟨_, rfl, .inr ⟨(⟨y, 0, some ⟨b_20, 0, none⟩, n, n, none, 0, 0, some ⟨b3, 0, none⟩, 8, 8⟩ : StP).cells, sh67, hb_4.row, rfl⟩⟩, rfl, trivial⟩ ?_
        -- end 2
        exact ⟨S, _, x, _, rfl, (UpN.one ge_20).or ((UpN.one ge3).or up), (hb_20.ft.and (h3.ft.and h1)).imp fun u h => ⟨h.2.2, rfl, rfl, rfl, rfl, b_20, b3, rfl, rfl, rfl, rfl, rfl, rfl, h.1, h.2.1⟩⟩
      ·
        refine RL.call rfl ok117 (c_repC 8 (by omega) b_22 w_22 hb_22) rfl rfl ?_
        rintro _ w13 ⟨s14, b3, rfl, ge3, h3⟩
        have n3_4 : b3 ≠ b_4 := (by have := hb_4.lt; omega)
        have ge3 := Nat.le_trans S.size ge3
        have S := S.trans s14
        have hb_4 := hb_4.sub s14
        have h1 := h1.sub s14
        have hb_6 := hb_6.sub s14
        have szD := Nat.le_trans szD s14.size
        have hb_22 := hb_22.sub s14
        refine RD.back s14.agr ?_
        refine RD.all [2] (by kernel_rfl) rfl (RDs.cons rfl ?_ (RDs.nil))
        refine RL.makeSlice sl24 ze3 rfl rfl rfl rfl (by omega) rfl rfl (fun b_20 w_20 e_20 z_20 hb_20 s_20 => ?_)
        have fr_b_20 : w3.heap.size ≤ b_20 := by rw [e_20]; exact szD
        have ge_20 := S.le e_20
        have n_4__20 := hb_4.ne e_20
        have n_6__20 := hb_6.ne e_20
        have n_22__20 := hb_22.ne e_20
        have n3__20 := h3.ne e_20
        have d_h1_b_20 := h1.neNew e_20
        have S := S.trans s_20
        have hb_4 := hb_4.sub s_20
        have h1 := h1.sub s_20
        have hb_6 := hb_6.sub s_20
        have szD := Nat.le_trans szD s_20.size
        have hb_22 := hb_22.sub s_20
        have h3 := h3.sub s_20
        have hb_20 : Has w_20 b_20 (List.replicate n [i0]).flatten 3 := (by have := hb_20; rw [Int.toNat_natCast] at this; exact this)
        refine RD.back s_20.agr ?_
        refine RD.take 6 rfl (by kernel_rfl) (by kernel_rfl) (by kernel_rfl) (fun w' s' => .buildS (vs := [(0, .agg y.cells.toArray), (2, .slice (some ⟨b_20, 0, none⟩) n n), (4, .slice (some ⟨b3, 0, none⟩) 8 8)]) (cs := ((⟨y, 0, some ⟨b_20, 0, none⟩, n, n, none, 0, 0, some ⟨b3, 0, none⟩, 8, 8⟩ : StP).cells).toArray) ze67 pl67 rfl (by kernel_rfl)) rfl rfl ?_
        refine RD.all [7] (by kernel_rfl) rfl (RDs.cons rfl ?_ (RDs.nil))
        refine RL.store sh67 rfl rfl rfl hb_4 (by exact Nat.le_of_ble_eq_true rfl) (by rfl) rfl (fun w15 z15 hb_4 a15 => ?_)
        have S := S.upd a15 ge_4
        have h1 := h1.updD a15 d_h1_b_4
        have hb_6 := hb_6.upd a15 n_4__6.symm
        have szD := Nat.le_trans szD a15.size
        have hb_22 := hb_22.upd a15 n_4__22.symm
        have h3 := h3.upd a15 n3_4
        have hb_20 := hb_20.upd a15 n_4__20.symm
        have hb_4 : Has w15 b_4 ((⟨y, 0, some ⟨b_20, 0, none⟩, n, n, none, 0, 0, some ⟨b3, 0, none⟩, 8, 8⟩ : StP).cells) _ := hb_4.now (by kernel_rfl)
        refine RD.backW rfl (a15.mono fun k _ e => e ▸ (.inl (rfl))) ?_
        refine RD.take 8 rfl (by kernel_rfl) (by kernel_rfl) (by kernel_rfl) (fun w' s' => .assign rfl) rfl rfl ?_
        refine RD.done (by kernel_rfl) (RC.back ?_)
        refine RC.done (rs := [.cell 4 67, .tmp 5]) (vs := [_, _]) rfl rfl ⟨⟨_, rfl, .inr ⟨(⟨y, 0, some ⟨b_20, 0, none⟩, n, n, none, 0, 0, some ⟨b3, 0, none⟩, 8, 8⟩ : StP).cells, sh67, hb_4.row, rfl⟩⟩, rfl, trivial⟩ ?_
        -- end 3
        exact ⟨S, _, x, _, rfl, (UpN.one ge_20).or ((UpN.one ge3).or up), (hb_20.ft.and (h3.ft.and h1)).imp fun u h => ⟨h.2.2, rfl, rfl, rfl, rfl, b_20, b3, rfl, rfl, rfl, rfl, rfl, rfl, h.1, h.2.1⟩⟩
theorem StNew.lens {n m : Nat} {u : World} {z : StP} {x : RcP} (h : StNew n m u z x) : z.wd.wn = n ∧ z.cn = 8 ∧ z.wd.tb.rn = 1 ∧ x.rt = rt0 := by
  obtain ⟨⟨_, _, _, _, _, ⟨b3, b4, b5, ht, _, _, _, b6, b7, hx, _⟩, b1, b2, _, _, _, _, h1, _⟩, _, _, _, _, b8, b9, _, _, _, _, h2, _⟩ := h
  exact ⟨h1, h2, by rw [ht], by rw [hx]⟩
theorem c_begin (n m : Nat) (hn : 1 ≤ n ∧ n ≤ 8) (hm : 1 ≤ m ∧ m ≤ 512) (w : World) :
    FC Tryz.prog 18 [.int .i64 (n : Int), .int .i64 (m : Int)] w (fun v w' => Sub w w' ∧ ∃ z x M, v = .tuple #[.agg z.cells.toArray, .bool true] ∧ UpN w M ∧ Ft M (fun u => StNew n m u z x) w') := by
  refine FC.intro Tryz.func18 rfl Tryz.ntmps18 rfl ?_
  have S := Sub.refl w
  refine RC.seq ?_
  refine RC.region rfl ?_
  refine RL.alloc ze67 rfl rfl (fun b_4 w_4 e_4 z_4 hb_4 s_4 => ?_)
  have ge_4 := S.le e_4
  have S := S.trans s_4
  refine RL.ev (.assign rfl) rfl rfl ?_
  refine RL.nil (RC.back ?_)
  refine RC.seq ?_
  refine RC.region rfl ?_
  refine RL.ev (.move rfl) rfl rfl ?_
  refine RL.ev (.move rfl) rfl rfl ?_
  refine RL.call rfl ok56 (c_sNew n m hn hm w_4) rfl rfl ?_
  rintro _ w1 ⟨s2, z, x, M, rfl, up, h1⟩
  have d_h1_b_4 := upNe up (fun _ (h : False) => h.elim) hb_4.lt
  have up := up.low S.size
  have hl := h1.now.lens
  have S := S.trans s2
  have hb_4 := hb_4.sub s2
  refine RL.ev (.move rfl) rfl rfl ?_
  refine RL.ev (.extract rfl rfl) rfl rfl ?_
  refine RL.ev (.extract rfl rfl) rfl rfl ?_
  refine RL.alloc ze67 rfl rfl (fun b_6 w_6 e_6 z_6 hb_6 s_6 => ?_)
  have ge_6 := S.le e_6
  have n_4__6 := hb_4.ne e_6
  have d_h1_b_6 := h1.neNew e_6
  have S := S.trans s_6
  have hb_4 := hb_4.sub s_6
  have h1 := h1.sub s_6
  refine RL.store sh67 rfl rfl rfl hb_6 (by exact Nat.le_of_ble_eq_true rfl) (by rfl) rfl (fun w3 z3 hb_6 a3 => ?_)
  have S := S.upd a3 ge_6
  have hb_4 := hb_4.upd a3 n_4__6
  have h1 := h1.updD a3 d_h1_b_6
  have hb_6 : Has w3 b_6 (z.cells) _ := hb_6.now (by kernel_rfl)
  refine RL.ev (.assign rfl) rfl rfl ?_
  refine RL.nil (RC.back ?_)
  refine RC.seq ?_
  refine RC.drawD (fun k => k = b_4) [25] w3.heap.size 27 rfl rfl mxo (fun w4 s5 => ?_)
  have hNN : ∀ k, ((k = b_4) ∨ w3.heap.size ≤ k) → w.heap.size ≤ k := fun k e => e.elim (fun e => e ▸ ge_4) (fun e => Nat.le_trans S.size e)
  have ent_S := S.size
  have hN0 : ∀ k, w3.heap.size ≤ k → w.heap.size ≤ k := fun k e => Nat.le_trans S.size e
  have ltD_b_4 := hb_4.lt
  have ltD_h1 := fun k hk => (h1.ge k hk).2
  have ltD_b_6 := hb_6.lt
  have szD := Nat.le_refl w3.heap.size
  have S := S.trans s5
  have hb_4 := hb_4.sub s5
  have h1 := h1.sub s5
  have hb_6 := hb_6.sub s5
  have szD := Nat.le_trans szD s5.size
  refine RD.take 0 rfl (by kernel_rfl) (by kernel_rfl) (by kernel_rfl) (fun w' s' => .loadR (z.cells) sh67 rfl (hb_6.step s' (fun e => e.elim (fun e => n_4__6.symm e) (fun e => Nat.not_le.2 ltD_b_6 e))).row rfl) rfl rfl ?_
  refine RD.take 1 rfl (by kernel_rfl) (by kernel_rfl) (by kernel_rfl) (fun w' s' => .move rfl) rfl rfl ?_
  refine RD.take 2 rfl (by kernel_rfl) (by kernel_rfl) (by kernel_rfl) (fun w' s' => .as (v' := .bool true) (.bin rfl rfl rfl) (congrArg Value.bool (decide_eq_true (rfl)))) rfl rfl ?_
  refine RD.take 3 rfl (by kernel_rfl) (by kernel_rfl) (by kernel_rfl) (fun w' s' => .move rfl) rfl rfl ?_
  refine RD.take 4 rfl (by kernel_rfl) (by kernel_rfl) (by kernel_rfl) (fun w' s' => .field0 fo67_0 rfl) rfl rfl ?_
  refine RD.take 5 rfl (by kernel_rfl) (by kernel_rfl) (by kernel_rfl) (fun w' s' => .field0 fo63_3 rfl) rfl rfl ?_
  refine RD.take 6 rfl (by kernel_rfl) (by kernel_rfl) (by kernel_rfl) (fun w' s' => .load1 sh61 rfl ((hb_6.step s' (fun e => e.elim (fun e => n_4__6.symm e) (fun e => Nat.not_le.2 ltD_b_6 e))).cell rfl)) rfl rfl ?_
  refine RD.take 7 rfl (by kernel_rfl) (by kernel_rfl) (by kernel_rfl) (fun w' s' => .len sl61 rfl) rfl rfl ?_
  refine RD.take 8 rfl (by kernel_rfl) (by kernel_rfl) (by kernel_rfl) (fun w' s' => .move rfl) rfl rfl ?_
  refine RD.take 9 rfl (by kernel_rfl) (by kernel_rfl) (by kernel_rfl) (fun w' s' => .as (v' := .bool true) (.bin rfl rfl rfl) (congrArg Value.bool (decide_eq_true (by rw [hl.1])))) rfl rfl ?_
  refine RD.take 10 rfl (by kernel_rfl) (by kernel_rfl) (by kernel_rfl) (fun w' s' => .pick_t rfl rfl) rfl rfl ?_
  refine RD.take 11 rfl (by kernel_rfl) (by kernel_rfl) (by kernel_rfl) (fun w' s' => .move rfl) rfl rfl ?_
  refine RD.take 12 rfl (by kernel_rfl) (by kernel_rfl) (by kernel_rfl) (fun w' s' => .field0 fo67_4 rfl) rfl rfl ?_
  refine RD.take 13 rfl (by kernel_rfl) (by kernel_rfl) (by kernel_rfl) (fun w' s' => .load1 sh65 rfl ((hb_6.step s' (fun e => e.elim (fun e => n_4__6.symm e) (fun e => Nat.not_le.2 ltD_b_6 e))).cell rfl)) rfl rfl ?_
  refine RD.take 14 rfl (by kernel_rfl) (by kernel_rfl) (by kernel_rfl) (fun w' s' => .len sl65 rfl) rfl rfl ?_
  refine RD.take 15 rfl (by kernel_rfl) (by kernel_rfl) (by kernel_rfl) (fun w' s' => .as (v' := .bool true) (.bin rfl rfl rfl) (congrArg Value.bool (decide_eq_true (by rw [hl.2.1]; rfl)))) rfl rfl ?_
  refine RD.take 16 rfl (by kernel_rfl) (by kernel_rfl) (by kernel_rfl) (fun w' s' => .pick_t rfl rfl) rfl rfl ?_
  refine RD.take 17 rfl (by kernel_rfl) (by kernel_rfl) (by kernel_rfl) (fun w' s' => .move rfl) rfl rfl ?_
  refine RD.take 18 rfl (by kernel_rfl) (by kernel_rfl) (by kernel_rfl) (fun w' s' => .field0 fo67_0 rfl) rfl rfl ?_
  refine RD.take 19 rfl (by kernel_rfl) (by kernel_rfl) (by kernel_rfl) (fun w' s' => .field0 fo63_1 rfl) rfl rfl ?_
  refine RD.take 20 rfl (by kernel_rfl) (by kernel_rfl) (by kernel_rfl) (fun w' s' => .field0 fo59_0 rfl) rfl rfl ?_
  refine RD.take 21 rfl (by kernel_rfl) (by kernel_rfl) (by kernel_rfl) (fun w' s' => .load1 sh57 rfl ((hb_6.step s' (fun e => e.elim (fun e => n_4__6.symm e) (fun e => Nat.not_le.2 ltD_b_6 e))).cell rfl)) rfl rfl ?_
  refine RD.take 22 rfl (by kernel_rfl) (by kernel_rfl) (by kernel_rfl) (fun w' s' => .len sl57 rfl) rfl rfl ?_
  refine RD.take 23 rfl (by kernel_rfl) (by kernel_rfl) (by kernel_rfl) (fun w' s' => .as (v' := .bool true) (.bin rfl rfl rfl) (congrArg Value.bool (decide_eq_true (by rw [hl.2.2.1]; rfl)))) rfl rfl ?_
  refine RD.take 24 rfl (by kernel_rfl) (by kernel_rfl) (by kernel_rfl) (fun w' s' => .pick_t rfl rfl) rfl rfl ?_
  refine RD.all [25] (by kernel_rfl) rfl (RDs.cons rfl ?_ (RDs.nil))
  refine RL.store sh67 rfl rfl rfl hb_4 (by exact Nat.le_of_ble_eq_true rfl) (by rfl) rfl (fun w6 z6 hb_4 a6 => ?_)
  have S := S.upd a6 ge_4
  have h1 := h1.updD a6 d_h1_b_4
  have hb_6 := hb_6.upd a6 n_4__6.symm
  have szD := Nat.le_trans szD a6.size
  have hb_4 : Has w6 b_4 (z.cells) _ := hb_4.now (by kernel_rfl)
  refine RD.backW rfl (a6.mono fun k _ e => e ▸ (.inl (rfl))) ?_
  refine RD.take 26 rfl (by kernel_rfl) (by kernel_rfl) (by kernel_rfl) (fun w' s' => .assign rfl) rfl rfl ?_
  refine RD.done (by kernel_rfl) (RC.back ?_)
  refine RC.done (rs := [.cell 4 67, .tmp 5]) (vs := [_, _]) rfl rfl ⟨⟨_, rfl, .inr ⟨z.cells, sh67, hb_4.row, rfl⟩⟩, rfl, trivial⟩ ?_
  -- end 1
  exact ⟨S, z, x, M, rfl, up, h1⟩
end Go.Proofs.YtbjmllnddanniaaGreat
set_option linter.unusedVariables false
set_option linter.unusedSimpArgs false
namespace Go.Proofs.YtbjmllnddanniaaGreat
open Go Go.XL
theorem _root_.Go.XL.FC.yes {P : Program} {f : FuncId} {args : List Value} {w : World} {q : Prop} [Decidable q] (h : FC P f args w (Val (.bool (decide q)) w)) (hq : q) : FC P f args w (Val (.bool true) w) := by rwa [decide_eq_true hq] at h
/-- a worker that there is not does no step -/
theorem c_stepNo (y : WdP) (k : Int) (hk : (y.wn : Int) ≤ k) (h0 : 0 ≤ k) (w : World) :
    FC Tryz.prog 91 [.agg y.cells.toArray, .int .i64 k] w (Val (.tuple #[.agg wdp0.cells.toArray, .bool false, .agg #[.int .i64 0, .int .i64 0, .int .i64 0], .int .i64 1]) w) := by
  refine FC.intro Tryz.func91 rfl Tryz.ntmps91 rfl ?_
  have S := Sub.refl w
  refine RC.seq ?_
  refine RC.region rfl ?_
  refine RL.box rfl rfl rfl (fun b_2 w_2 e_2 z_2 hb_2 s_2 => ?_)
  have ge_2 := S.le e_2
  have S := S.trans s_2
  have hb_2 : Has w_2 b_2 (y.cells) _ := hb_2
  refine RL.alloc ze63 rfl rfl (fun b_4 w_4 e_4 z_4 hb_4 s_4 => ?_)
  have ge_4 := S.le e_4
  have n_2__4 := hb_2.ne e_4
  have S := S.trans s_4
  have hb_2 := hb_2.sub s_4
  refine RL.ev (.assign rfl) rfl rfl ?_
  refine RL.alloc ze38 rfl rfl (fun b_6 w_6 e_6 z_6 hb_6 s_6 => ?_)
  have ge_6 := S.le e_6
  have n_2__6 := hb_2.ne e_6
  have n_4__6 := hb_4.ne e_6
  have S := S.trans s_6
  have hb_2 := hb_2.sub s_6
  have hb_4 := hb_4.sub s_6
  refine RL.ev (.assign rfl) rfl rfl ?_
  refine RL.nil (RC.back ?_)
  refine RC.seq ?_
  refine RC.seq ?_
  refine RC.region rfl ?_
  refine RL.ev (.move rfl) rfl rfl ?_
  refine RL.ev (.bin rfl rfl rfl) rfl rfl ?_
  refine RL.ev (.move rfl) rfl rfl ?_
  refine RL.split 16 rfl (fun h1 => ?_) (fun h1 => ?_)
  ·
    exact absurd h1 (by omega)
  ·
    refine RL.ev (.move rfl) rfl rfl ?_
    refine RL.ev (.field0 fo63_3 rfl) rfl rfl ?_
    refine RL.ev (.load1 sh61 rfl (hb_2.cell rfl)) rfl rfl ?_
    refine RL.ev (.len sl61 rfl) rfl rfl ?_
    refine RL.ev (.bin rfl rfl rfl) rfl rfl ?_
    refine RL.ev (.pick_f rfl rfl) rfl rfl ?_
    refine RL.ev (.move rfl) rfl rfl ?_
    refine RL.split 23 rfl (fun h2 => ?_) (fun h2 => ?_)
    ·
      refine RL.off rfl rfl ?_
      refine RL.off rfl rfl ?_
      refine RL.off rfl rfl ?_
      refine RL.off rfl rfl ?_
      refine RL.off rfl rfl ?_
      refine RL.ev (.pick_t rfl rfl) rfl rfl ?_
      refine RL.nil (RC.back ?_)
      refine RC.cond_t rfl ?_
      refine RC.seq ?_
      refine RC.region rfl ?_
      refine RL.ev (.buildS ze63 pl63 rfl rfl) rfl rfl ?_
      refine RL.ev (.buildS ze38 pl38 rfl rfl) rfl rfl ?_
      refine RL.store sh63 rfl rfl rfl hb_4 (by exact Nat.le_of_ble_eq_true rfl) (by rfl) rfl (fun w3 z3 hb_4 a3 => ?_)
      have S := S.upd a3 ge_4
      have hb_2 := hb_2.upd a3 n_2__4
      have hb_6 := hb_6.upd a3 n_4__6.symm
      have hb_4 : Has w3 b_4 (wdp0.cells) _ := hb_4.now (by kernel_rfl)
      refine RL.ev (.assign rfl) rfl rfl ?_
      refine RL.store sh38 rfl rfl rfl hb_6 (by exact Nat.le_of_ble_eq_true rfl) (by rfl) rfl (fun w4 z4 hb_6 a4 => ?_)
      have S := S.upd a4 ge_6
      have hb_2 := hb_2.upd a4 n_2__6
      have hb_4 := hb_4.upd a4 n_4__6
      have hb_6 : Has w4 b_6 ([.int .i64 0, .int .i64 0, .int .i64 0]) _ := hb_6.now (by kernel_rfl)
      refine RL.ev (.assign rfl) rfl rfl ?_
      refine RL.nil (RC.back ?_)
      refine RC.done (rs := [.cell 4 63, .tmp 5, .cell 6 38, .tmp 7]) (vs := [_, _, _, _]) rfl rfl ⟨⟨_, rfl, .inr ⟨wdp0.cells, sh63, hb_4.row, rfl⟩⟩, rfl, ⟨_, rfl, .inr ⟨[.int .i64 0, .int .i64 0, .int .i64 0], sh38, hb_6.row, rfl⟩⟩, rfl, trivial⟩ ?_
      -- end 1
      exact ⟨rfl, S⟩
    ·
      exact absurd hk h2
theorem c_doneNo (b : Nat) (x z e : Int) (he : ¬ e = 0) (w : World) :
    FC Tryz.prog 93 [.pointer (some ⟨b, 0, none⟩), .int .i64 x, .int .i64 z, .int .i64 e] w (Val (.tuple #[.agg stp0.cells.toArray, .int .i64 z, .int .i64 e]) w) := by
  refine FC.intro Tryz.func93 rfl Tryz.ntmps93 rfl ?_
  have S := Sub.refl w
  refine RC.seq ?_
  refine RC.region rfl ?_
  refine RL.alloc ze67 rfl rfl (fun b_8 w_8 e_8 z_8 hb_8 s_8 => ?_)
  have ge_8 := S.le e_8
  have S := S.trans s_8
  refine RL.ev (.assign rfl) rfl rfl ?_
  refine RL.ev (.assign rfl) rfl rfl ?_
  refine RL.nil (RC.back ?_)
  refine RC.seq ?_
  refine RC.seq ?_
  refine RC.region rfl ?_
  refine RL.ev (.move rfl) rfl rfl ?_
  refine RL.ev (.bin rfl rfl rfl) rfl rfl ?_
  refine RL.nil (RC.back ?_)
  refine RC.cond_dec rfl (fun h1 => ?_) (fun h1 => ?_)
  ·
    refine RC.seq ?_
    refine RC.region rfl ?_
    refine RL.ev (.buildS ze67 pl67 rfl rfl) rfl rfl ?_
    refine RL.ev (.move rfl) rfl rfl ?_
    refine RL.ev (.move rfl) rfl rfl ?_
    refine RL.store sh67 rfl rfl rfl hb_8 (by exact Nat.le_of_ble_eq_true rfl) (by rfl) rfl (fun w2 z2 hb_8 a2 => ?_)
    have S := S.upd a2 ge_8
    have hb_8 : Has w2 b_8 (stp0.cells) _ := hb_8.now (by kernel_rfl)
    refine RL.ev (.assign rfl) rfl rfl ?_
    refine RL.ev (.assign rfl) rfl rfl ?_
    refine RL.nil (RC.back ?_)
    refine RC.done (rs := [.cell 8 67, .tmp 9, .tmp 10]) (vs := [_, _, _]) rfl rfl ⟨⟨_, rfl, .inr ⟨stp0.cells, sh67, hb_8.row, rfl⟩⟩, rfl, rfl, trivial⟩ ?_
    -- end 1
    exact ⟨rfl, S⟩
  ·
    exact absurd (Decidable.not_not.1 h1) he
theorem c_pickNo (z : StP) (k : Int) (hk : (z.wd.wn : Int) ≤ k) (h0 : 0 ≤ k) (w : World) :
    FC Tryz.prog 41 [.agg z.cells.toArray, .int .i64 k] w (Val (.tuple #[.agg stp0.cells.toArray, .int .i64 1]) w) := by
  refine FC.intro Tryz.func41 rfl Tryz.ntmps41 rfl ?_
  have S := Sub.refl w
  refine RC.seq ?_
  refine RC.region rfl ?_
  refine RL.box rfl rfl rfl (fun b_2 w_2 e_2 z_2 hb_2 s_2 => ?_)
  have ge_2 := S.le e_2
  have S := S.trans s_2
  have hb_2 : Has w_2 b_2 (z.cells) _ := hb_2
  refine RL.alloc ze67 rfl rfl (fun b_4 w_4 e_4 z_4 hb_4 s_4 => ?_)
  have ge_4 := S.le e_4
  have n_2__4 := hb_2.ne e_4
  have S := S.trans s_4
  have hb_2 := hb_2.sub s_4
  refine RL.ev (.assign rfl) rfl rfl ?_
  refine RL.nil (RC.back ?_)
  refine RC.seq ?_
  refine RC.region rfl ?_
  refine RL.ev (.loadR (z.cells) sh67 rfl hb_2.row rfl) rfl rfl ?_
  refine RL.ev (.buildS (vs := [(0, .agg z.cells.toArray)]) (cs := (z.cells).toArray) ze173 pl173 rfl (by kernel_rfl)) rfl rfl ?_
  refine RL.box rfl rfl rfl (fun b_13 w_13 e_13 z_13 hb_13 s_13 => ?_)
  have ge_13 := S.le e_13
  have n_2__13 := hb_2.ne e_13
  have n_4__13 := hb_4.ne e_13
  have S := S.trans s_13
  have hb_2 := hb_2.sub s_13
  have hb_4 := hb_4.sub s_13
  have hb_13 : Has w_13 b_13 (z.cells) _ := hb_13
  refine RL.ev (.assign rfl) rfl rfl ?_
  refine RL.nil (RC.back ?_)
  refine RC.seq ?_
  refine RC.region rfl ?_
  refine RL.ev (.field0 fo67_0 rfl) rfl rfl ?_
  refine RL.ev (.loadR (z.wd.cells) sh63 rfl ((Has.row_at (pre := []) (mid := z.wd.cells) (post := [.int .i64 z.time, .slice z.ia z.inn z.ic, .slice z.la z.ln z.lc, .slice z.ca z.cn z.cc]) hb_2 rfl)) rfl) rfl rfl ?_
  refine RL.ev (.move rfl) rfl rfl ?_
  refine RL.call rfl ok91 (c_stepNo z.wd k hk h0 w_13) rfl rfl ?_
  rintro _ w1 ⟨rfl, s2⟩
  have S := S.trans s2
  have hb_2 := hb_2.sub s2
  have hb_4 := hb_4.sub s2
  have hb_13 := hb_13.sub s2
  refine RL.ev (.move rfl) rfl rfl ?_
  refine RL.ev (.extract rfl rfl) rfl rfl ?_
  refine RL.ev (.as (v' := .bool false) (.extract rfl rfl) (by rfl)) rfl rfl ?_
  refine RL.ev (.extract rfl rfl) rfl rfl ?_
  refine RL.ev (.as (v' := .int .i64 1) (.extract rfl rfl) (by rfl)) rfl rfl ?_
  refine RL.alloc ze63 rfl rfl (fun b_7 w_7 e_7 z_7 hb_7 s_7 => ?_)
  have ge_7 := S.le e_7
  have n_2__7 := hb_2.ne e_7
  have n_4__7 := hb_4.ne e_7
  have n_13__7 := hb_13.ne e_7
  have S := S.trans s_7
  have hb_2 := hb_2.sub s_7
  have hb_4 := hb_4.sub s_7
  have hb_13 := hb_13.sub s_7
  refine RL.alloc ze38 rfl rfl (fun b_9 w_9 e_9 z_9 hb_9 s_9 => ?_)
  have ge_9 := S.le e_9
  have n_2__9 := hb_2.ne e_9
  have n_4__9 := hb_4.ne e_9
  have n_13__9 := hb_13.ne e_9
  have n_7__9 := hb_7.ne e_9
  have S := S.trans s_9
  have hb_2 := hb_2.sub s_9
  have hb_4 := hb_4.sub s_9
  have hb_13 := hb_13.sub s_9
  have hb_7 := hb_7.sub s_9
  refine RL.store sh63 rfl rfl rfl hb_7 (by exact Nat.le_of_ble_eq_true rfl) (by rfl) rfl (fun w3 z3 hb_7 a3 => ?_)
  have S := S.upd a3 ge_7
  have hb_2 := hb_2.upd a3 n_2__7
  have hb_4 := hb_4.upd a3 n_4__7
  have hb_13 := hb_13.upd a3 n_13__7
  have hb_9 := hb_9.upd a3 n_7__9.symm
  have hb_7 : Has w3 b_7 (wdp0.cells) _ := hb_7.now (by kernel_rfl)
  refine RL.ev (.assign rfl) rfl rfl ?_
  refine RL.store sh38 rfl rfl rfl hb_9 (by exact Nat.le_of_ble_eq_true rfl) (by rfl) rfl (fun w4 z4 hb_9 a4 => ?_)
  have S := S.upd a4 ge_9
  have hb_2 := hb_2.upd a4 n_2__9
  have hb_4 := hb_4.upd a4 n_4__9
  have hb_13 := hb_13.upd a4 n_13__9
  have hb_7 := hb_7.upd a4 n_7__9
  refine RL.ev (.assign rfl) rfl rfl ?_
  refine RL.nil (RC.back ?_)
  refine RC.seq ?_
  refine RC.region rfl ?_
  refine RL.ev (.move rfl) rfl rfl ?_
  refine RL.ev (.loadR (wdp0.cells) sh63 rfl hb_7.row rfl) rfl rfl ?_
  refine RL.ev (.nilCheck rfl) rfl rfl ?_
  refine RL.ev (.field0 fo173_0 rfl) rfl rfl ?_
  refine RL.ev (.field0 fo67_0 rfl) rfl rfl ?_
  refine RL.store sh63 rfl rfl rfl hb_13 (by exact Nat.le_of_ble_eq_true rfl) (by rfl) rfl (fun w5 z5 hb_13 a5 => ?_)
  have S := S.upd a5 ge_13
  have hb_2 := hb_2.upd a5 n_2__13
  have hb_4 := hb_4.upd a5 n_4__13
  have hb_7 := hb_7.upd a5 n_13__7.symm
  have hb_9 := hb_9.upd a5 n_13__9.symm
  have hb_13 : Has w5 b_13 (({ z with wd := wdp0 } : StP).cells) _ := hb_13.eqc (by kernel_rfl)
  refine RL.nil (RC.back ?_)
  refine RC.seq ?_
  refine RC.seq ?_
  refine RC.region rfl ?_
  refine RL.ev (.move rfl) rfl rfl ?_
  refine RL.ev (.move rfl) rfl rfl ?_
  refine RL.off rfl rfl ?_
  refine RL.off rfl rfl ?_
  refine RL.off rfl rfl ?_
  refine RL.off rfl rfl ?_
  refine RL.off rfl rfl ?_
  refine RL.ev (.pick_f rfl rfl) rfl rfl ?_
  refine RL.nil (RC.back ?_)
  refine RC.cond_f rfl ?_
  refine RC.skip (RC.back ?_)
  refine RC.seq ?_
  refine RC.region rfl ?_
  refine RL.ev (.move rfl) rfl rfl ?_
  refine RL.ev (.move rfl) rfl rfl ?_
  refine RL.call rfl ok93 (c_doneNo b_13 0 0 1 (by decide) w5) rfl rfl ?_
  rintro _ w6 ⟨rfl, s7⟩
  have S := S.trans s7
  have hb_2 := hb_2.sub s7
  have hb_4 := hb_4.sub s7
  have hb_13 := hb_13.sub s7
  have hb_7 := hb_7.sub s7
  have hb_9 := hb_9.sub s7
  refine RL.ev (.move rfl) rfl rfl ?_
  refine RL.ev (.extract rfl rfl) rfl rfl ?_
  refine RL.ev (.extract rfl rfl) rfl rfl ?_
  refine RL.ev (.extract rfl rfl) rfl rfl ?_
  refine RL.store sh67 rfl rfl rfl hb_2 (by exact Nat.le_of_ble_eq_true rfl) (by rfl) rfl (fun w8 z8 hb_2 a8 => ?_)
  have S := S.upd a8 ge_2
  have hb_4 := hb_4.upd a8 n_2__4.symm
  have hb_13 := hb_13.upd a8 n_2__13.symm
  have hb_7 := hb_7.upd a8 n_2__7.symm
  have hb_9 := hb_9.upd a8 n_2__9.symm
  have hb_2 : Has w8 b_2 (stp0.cells) _ := hb_2.now (by kernel_rfl)
  refine RL.ev (.assign rfl) rfl rfl ?_
  refine RL.nil (RC.back ?_)
  refine RC.seq ?_
  refine RC.region rfl ?_
  refine RL.ev (.loadR (stp0.cells) sh67 rfl hb_2.row rfl) rfl rfl ?_
  refine RL.ev (.move rfl) rfl rfl ?_
  refine RL.store sh67 rfl rfl rfl hb_4 (by exact Nat.le_of_ble_eq_true rfl) (by rfl) rfl (fun w9 z9 hb_4 a9 => ?_)
  have S := S.upd a9 ge_4
  have hb_2 := hb_2.upd a9 n_2__4
  have hb_13 := hb_13.upd a9 n_4__13.symm
  have hb_7 := hb_7.upd a9 n_4__7.symm
  have hb_9 := hb_9.upd a9 n_4__9.symm
  have hb_4 : Has w9 b_4 (stp0.cells) _ := hb_4.now (by kernel_rfl)
  refine RL.ev (.assign rfl) rfl rfl ?_
  refine RL.nil (RC.back ?_)
  refine RC.done (rs := [.cell 4 67, .tmp 5]) (vs := [_, _]) rfl rfl ⟨⟨_, rfl, .inr ⟨stp0.cells, sh67, hb_4.row, rfl⟩⟩, rfl, trivial⟩ ?_
  -- end 1
  exact ⟨rfl, S⟩
set_option maxHeartbeats 1000000 in
theorem c_alive (w : World) : FC Tryz.prog 13 [] w (Val (.bool true) w) := by
  have hok : AOk (newA 50) := newA_ok (by decide)
  refine FC.intro Tryz.func13 rfl Tryz.ntmps13 rfl ?_
  have S := Sub.refl w
  refine RC.seq ?_
  refine RC.region rfl ?_
  refine RL.ev (.assign rfl) rfl rfl ?_
  refine RL.nil (RC.back ?_)
  refine RC.seq ?_
  refine RC.region rfl ?_
  refine RL.call rfl ok18 (c_begin 2 50 (by decide) (by decide) w) rfl rfl ?_
  rintro _ w1 ⟨s2, z, x, M, rfl, up, h1⟩
  have hl := h1.now.lens
  have h2 := h1.now
  obtain ⟨⟨hAr, e1, e2, e3, e4, ⟨b1, b2, b3, ht, hbx, _⟩, _⟩, _⟩ := h2
  have S := S.trans s2
  obtain ⟨W1, S1, hAr⟩ : ∃ W, Sub W w1 ∧ ArR W z.wd.na z.wd.fa (newA 50) := ⟨_, Sub.refl _, hAr⟩
  refine RL.ev (.move rfl) rfl rfl ?_
  refine RL.ev (.extract rfl rfl) rfl rfl ?_
  refine RL.ev (.as (v' := .bool true) (.extract rfl rfl) (by rfl)) rfl rfl ?_
  refine RL.alloc ze67 rfl rfl (fun b_1 w_1 e_1 z_1 hb_1 s_1 => ?_)
  have ge_1 := S.le e_1
  have n1__1 := hbx.ne e_1
  have S := S.trans s_1
  have geS1_1 := S1.le e_1
  have S1 := S1.trans s_1
  have hbx := hbx.sub s_1
  refine RL.store sh67 rfl rfl rfl hb_1 (by exact Nat.le_of_ble_eq_true rfl) (by rfl) rfl (fun w3 z3 hb_1 a3 => ?_)
  have S := S.upd a3 ge_1
  have S1 := S1.upd a3 geS1_1
  have hbx := hbx.upd a3 n1__1
  have hb_1 : Has w3 b_1 (z.cells) _ := hb_1.now (by kernel_rfl)
  refine RL.ev (.assign rfl) rfl rfl ?_
  refine RL.nil (RC.back ?_)
  refine RC.seq ?_
  refine RC.seq ?_
  refine RC.region rfl ?_
  refine RL.ev (.move rfl) rfl rfl ?_
  refine RL.ev (.not rfl) rfl rfl ?_
  refine RL.nil (RC.back ?_)
  refine RC.cond rfl (fun h4 => ?_) (fun h4 => ?_)
  ·
    exact absurd h4 (by decide)
  ·
    refine RC.skip (RC.back ?_)
    refine RC.seq ?_
    refine RC.drawD (fun k => False) [15] w3.heap.size 17 rfl rfl mxo (fun w5 s6 => ?_)
    have hNN : ∀ k, ((False) ∨ w3.heap.size ≤ k) → w.heap.size ≤ k := fun k e => e.elim (fun e => e.elim) (fun e => Nat.le_trans S.size e)
    have ent_S := S.size
    have ent_S1 := S1.size
    have hN0 : ∀ k, w3.heap.size ≤ k → w.heap.size ≤ k := fun k e => Nat.le_trans S.size e
    have ltD_b1 := hbx.lt
    have ltD_b_1 := hb_1.lt
    have szD := Nat.le_refl w3.heap.size
    have S := S.trans s6
    have S1 := S1.trans s6
    have hbx := hbx.sub s6
    have hb_1 := hb_1.sub s6
    have szD := Nat.le_trans szD s6.size
    refine RD.take 0 rfl (by kernel_rfl) (by kernel_rfl) (by kernel_rfl) (fun w' s' => .field0 fo67_0 rfl) rfl rfl ?_
    refine RD.take 1 rfl (by kernel_rfl) (by kernel_rfl) (by kernel_rfl) (fun w' s' => .field0 fo63_0 rfl) rfl rfl ?_
    refine RD.take 2 rfl (by kernel_rfl) (by kernel_rfl) (by kernel_rfl) (fun w' s' => .as (v' := arV z.wd.na z.wd.fa z.wd.nc z.wd.fc (newA 50)) (.loadR ([.slice z.wd.na z.wd.nn z.wd.nc, .slice z.wd.fa z.wd.fn z.wd.fc]) sh26 rfl (row_pref (xs := [.slice z.wd.na z.wd.nn z.wd.nc, .slice z.wd.fa z.wd.fn z.wd.fc]) (ys := [.slice z.wd.tb.ra z.wd.tb.rn z.wd.tb.rc, .slice z.wd.tb.pa z.wd.tb.pn z.wd.tb.pc, .slice z.wd.tb.sa z.wd.tb.sn z.wd.tb.sc, .slice z.wd.aa z.wd.an z.wd.ac, .slice z.wd.wa z.wd.wn z.wd.wc, .int .i64 z.time, .slice z.ia z.inn z.ic, .slice z.la z.ln z.lc, .slice z.ca z.cn z.cc]) (hb_1.step s' (fun e => e.elim (fun e => e.elim) (fun e => Nat.not_le.2 ltD_b_1 e)))) rfl) (by rw [e1, e3]; rfl)) rfl rfl ?_
    refine RD.take 3 rfl (by kernel_rfl) (by kernel_rfl) (by kernel_rfl) (fun w' s' => .field0 fo67_0 rfl) rfl rfl ?_
    refine RD.take 4 rfl (by kernel_rfl) (by kernel_rfl) (by kernel_rfl) (fun w' s' => .field0 fo63_1 rfl) rfl rfl ?_
    refine RD.take 5 rfl (by kernel_rfl) (by kernel_rfl) (by kernel_rfl) (fun w' s' => .field0 fo59_0 rfl) rfl rfl ?_
    refine RD.take 6 rfl (by kernel_rfl) (by kernel_rfl) (by kernel_rfl) (fun w' s' => .as (v' := .slice (some ⟨b1, 0, none⟩) 1 1) (.load1 sh57 rfl ((hb_1.step s' (fun e => e.elim (fun e => e.elim) (fun e => Nat.not_le.2 ltD_b_1 e))).cell rfl)) (by rw [ht])) rfl rfl ?_
    refine RD.take 7 rfl (by kernel_rfl) (by kernel_rfl) (by kernel_rfl) (fun w' s' => .indexO sl57 rfl rfl (by omega)) rfl rfl ?_
    refine RD.take 8 rfl (by kernel_rfl) (by kernel_rfl) (by kernel_rfl) (fun w' s' => .field0 fo77_1 rfl) rfl rfl ?_
    refine RD.take 9 rfl (by kernel_rfl) (by kernel_rfl) (by kernel_rfl) (fun w' s' => .as (v' := rt0.val) (.loadR (x.rt.cells) sh33 rfl ((Has.row_at (pre := [.int .i64 x.no]) (mid := x.rt.cells) (post := [.slice x.aa x.an x.ac, .slice x.ra x.rn x.rc]) (hbx.step s' (fun e => e.elim (fun e => e.elim) (fun e => Nat.not_le.2 ltD_b1 e))) rfl)) rfl) (by rw [hl.2.2.2]; rfl)) rfl rfl ?_
    refine RD.all [10, 14] (by kernel_rfl) rfl (RDs.cons rfl ?_ (RDs.cons rfl ?_ (RDs.nil)))
    ·
      refine RL.call rfl ok14 (c_hold0 (newA 50) _ _ _ _ (e1 ▸ e2) (e3 ▸ e4) rt0 rt0_ok rfl m0 (IsC.zero hok) w5 (hAr.sub S1)) rfl rfl ?_
      rintro _ w7 ⟨s8, p, M2, rfl, hms, upm, hF⟩
      have d_hF_b1 := upNe upm (fun _ (h : False) => h.elim) hbx.lt
      have d_hF_b_1 := upNe upm (fun _ (h : False) => h.elim) hb_1.lt
      have S := S.trans s8
      have S1 := S1.trans s8
      have hbx := hbx.sub s8
      have hb_1 := hb_1.sub s8
      have szD := Nat.le_trans szD s8.size
      refine RD.back s8.agr ?_
      refine RD.take 11 rfl (by kernel_rfl) (by kernel_rfl) (by kernel_rfl) (fun w' s' => .move rfl) rfl rfl ?_
      refine RD.take 12 rfl (by kernel_rfl) (by kernel_rfl) (by kernel_rfl) (fun w' s' => .extract rfl rfl) rfl rfl ?_
      refine RD.take 13 rfl (by kernel_rfl) (by kernel_rfl) (by kernel_rfl) (fun w' s' => .as (v' := .int .i64 0) (.extract rfl rfl) (by rfl)) rfl rfl ?_
      refine RD.all [14] (by kernel_rfl) rfl (RDs.cons rfl ?_ (RDs.nil))
      refine RL.alloc ze45 rfl rfl (fun b_3 w_3 e_3 z_3 hb_3 s_3 => ?_)
      have fr_b_3 : w3.heap.size ≤ b_3 := by rw [e_3]; exact szD
      have ge_3 := S.le e_3
      have n1__3 := hbx.ne e_3
      have n_1__3 := hb_1.ne e_3
      have d_hF_b_3 := hF.neNew e_3
      have S := S.trans s_3
      have geS1_3 := S1.le e_3
      have S1 := S1.trans s_3
      have hbx := hbx.sub s_3
      have hb_1 := hb_1.sub s_3
      have szD := Nat.le_trans szD s_3.size
      have hF := hF.sub s_3
      refine RD.back s_3.agr ?_
      refine RD.all [15] (by kernel_rfl) rfl (RDs.cons rfl ?_ (RDs.nil))
      refine RL.store sh45 rfl rfl rfl hb_3 (by exact Nat.le_of_ble_eq_true rfl) (by rfl) rfl (fun w9 z9 hb_3 a9 => ?_)
      have S := S.upd a9 ge_3
      have S1 := S1.upd a9 geS1_3
      have hbx := hbx.upd a9 n1__3
      have hb_1 := hb_1.upd a9 n_1__3
      have szD := Nat.le_trans szD a9.size
      have hF := hF.updD a9 d_hF_b_3
      have hb_3 : Has w9 b_3 (moC p m0) _ := hb_3.now (by kernel_rfl)
      refine RD.backW rfl (a9.mono fun k _ e => e ▸ (.inr fr_b_3)) ?_
      refine RD.take 16 rfl (by kernel_rfl) (by kernel_rfl) (by kernel_rfl) (fun w' s' => .assign rfl) rfl rfl ?_
      refine RD.done (by kernel_rfl) (RC.back ?_)
      refine RC.seq ?_
      refine RC.region rfl ?_
      refine RL.ev (.loadR (z.cells) sh67 rfl hb_1.row rfl) rfl rfl ?_
      refine RL.call rfl ok41 (c_pickNo z 9 (by rw [hl.1]; decide) (by decide) w9) rfl rfl ?_
      rintro _ w10 ⟨rfl, s11⟩
      have S := S.trans s11
      have S1 := S1.trans s11
      have hbx := hbx.sub s11
      have hb_1 := hb_1.sub s11
      have hF := hF.sub s11
      have hb_3 := hb_3.sub s11
      refine RL.ev (.move rfl) rfl rfl ?_
      refine RL.ev (.extract rfl rfl) rfl rfl ?_
      refine RL.ev (.as (v' := .int .i64 1) (.extract rfl rfl) (by rfl)) rfl rfl ?_
      refine RL.alloc ze67 rfl rfl (fun b_5 w_5 e_5 z_5 hb_5 s_5 => ?_)
      have ge_5 := S.le e_5
      have n1__5 := hbx.ne e_5
      have n_1__5 := hb_1.ne e_5
      have n_3__5 := hb_3.ne e_5
      have d_hF_b_5 := hF.neNew e_5
      have S := S.trans s_5
      have geS1_5 := S1.le e_5
      have S1 := S1.trans s_5
      have hbx := hbx.sub s_5
      have hb_1 := hb_1.sub s_5
      have hF := hF.sub s_5
      have hb_3 := hb_3.sub s_5
      refine RL.store sh67 rfl rfl rfl hb_5 (by exact Nat.le_of_ble_eq_true rfl) (by rfl) rfl (fun w12 z12 hb_5 a12 => ?_)
      have S := S.upd a12 ge_5
      have S1 := S1.upd a12 geS1_5
      have hbx := hbx.upd a12 n1__5
      have hb_1 := hb_1.upd a12 n_1__5
      have hF := hF.updD a12 d_hF_b_5
      have hb_3 := hb_3.upd a12 n_3__5
      have hb_5 : Has w12 b_5 (stp0.cells) _ := hb_5.now (by kernel_rfl)
      refine RL.ev (.assign rfl) rfl rfl ?_
      refine RL.nil (RC.back ?_)
      refine RC.seq ?_
      refine RC.region rfl ?_
      refine RL.ev (.move rfl) rfl rfl ?_
      refine RL.ev (.as (v' := .bool true) (.bin rfl rfl rfl) (congrArg Value.bool (decide_eq_true (rfl)))) rfl rfl ?_
      refine RL.ev (.move rfl) rfl rfl ?_
      refine RL.ev (.move rfl) rfl rfl ?_
      refine RL.ev (.as (v' := .bool true) (.bin rfl rfl rfl) (congrArg Value.bool (decide_eq_true (rfl)))) rfl rfl ?_
      refine RL.ev (.pick_t rfl rfl) rfl rfl ?_
      refine RL.ev (.move rfl) rfl rfl ?_
      refine RL.ev (.loadR (moC p m0) sh45 rfl hb_3.row rfl) rfl rfl ?_
      refine RL.ev (.as (v' := moV p0 m0) (.buildS ze45 pl45 rfl rfl) (by rfl)) rfl rfl ?_
      refine RL.call rfl ok42 (FC.yes (c_MSame p m0 hms p0 m0 m0_S w12 hF.now ⟨Sl.nil _ _ _, Sl.nil _ _ _, Sl.nil _ _ _, Sl.nil _ _ _⟩) ⟨rfl, rfl, rfl, rfl⟩) rfl rfl ?_
      rintro _ w13 ⟨rfl, s14⟩
      have S := S.trans s14
      have S1 := S1.trans s14
      have hbx := hbx.sub s14
      have hb_1 := hb_1.sub s14
      have hF := hF.sub s14
      have hb_3 := hb_3.sub s14
      have hb_5 := hb_5.sub s14
      refine RL.ev (.pick_t rfl rfl) rfl rfl ?_
      refine RL.ev (.assign rfl) rfl rfl ?_
      refine RL.nil (RC.back ?_)
      refine RC.done (rs := [.tmp 0]) (vs := [_]) rfl rfl ⟨rfl, trivial⟩ ?_
      -- end 1
      exact ⟨rfl, S⟩
    ·
      refine RL.alloc ze45 rfl rfl (fun b_3 w_3 e_3 z_3 hb_3 s_3 => ?_)
      have fr_b_3 : w3.heap.size ≤ b_3 := by rw [e_3]; exact szD
      have ge_3 := S.le e_3
      have n1__3 := hbx.ne e_3
      have n_1__3 := hb_1.ne e_3
      have S := S.trans s_3
      have geS1_3 := S1.le e_3
      have S1 := S1.trans s_3
      have hbx := hbx.sub s_3
      have hb_1 := hb_1.sub s_3
      have szD := Nat.le_trans szD s_3.size
      refine RD.back s_3.agr ?_
      refine RD.all [10] (by kernel_rfl) rfl (RDs.cons rfl ?_ (RDs.nil))
      refine RL.call rfl ok14 (c_hold0 (newA 50) _ _ _ _ (e1 ▸ e2) (e3 ▸ e4) rt0 rt0_ok rfl m0 (IsC.zero hok) w_3 (hAr.sub S1)) rfl rfl ?_
      rintro _ w15 ⟨s16, p, M2, rfl, hms, upm, hF⟩
      have d_hF_b1 := upNe upm (fun _ (h : False) => h.elim) hbx.lt
      have d_hF_b_1 := upNe upm (fun _ (h : False) => h.elim) hb_1.lt
      have d_hF_b_3 := upNe upm (fun _ (h : False) => h.elim) hb_3.lt
      have S := S.trans s16
      have S1 := S1.trans s16
      have hbx := hbx.sub s16
      have hb_1 := hb_1.sub s16
      have szD := Nat.le_trans szD s16.size
      have hb_3 := hb_3.sub s16
      refine RD.back s16.agr ?_
      refine RD.take 11 rfl (by kernel_rfl) (by kernel_rfl) (by kernel_rfl) (fun w' s' => .move rfl) rfl rfl ?_
      refine RD.take 12 rfl (by kernel_rfl) (by kernel_rfl) (by kernel_rfl) (fun w' s' => .extract rfl rfl) rfl rfl ?_
      refine RD.take 13 rfl (by kernel_rfl) (by kernel_rfl) (by kernel_rfl) (fun w' s' => .as (v' := .int .i64 0) (.extract rfl rfl) (by rfl)) rfl rfl ?_
      refine RD.all [15] (by kernel_rfl) rfl (RDs.cons rfl ?_ (RDs.nil))
      refine RL.store sh45 rfl rfl rfl hb_3 (by exact Nat.le_of_ble_eq_true rfl) (by rfl) rfl (fun w17 z17 hb_3 a17 => ?_)
      have S := S.upd a17 ge_3
      have S1 := S1.upd a17 geS1_3
      have hbx := hbx.upd a17 n1__3
      have hb_1 := hb_1.upd a17 n_1__3
      have szD := Nat.le_trans szD a17.size
      have hF := hF.updD a17 d_hF_b_3
      have hb_3 : Has w17 b_3 (moC p m0) _ := hb_3.now (by kernel_rfl)
      refine RD.backW rfl (a17.mono fun k _ e => e ▸ (.inr fr_b_3)) ?_
      refine RD.take 16 rfl (by kernel_rfl) (by kernel_rfl) (by kernel_rfl) (fun w' s' => .assign rfl) rfl rfl ?_
      refine RD.done (by kernel_rfl) (RC.back ?_)
      refine RC.seq ?_
      refine RC.region rfl ?_
      refine RL.ev (.loadR (z.cells) sh67 rfl hb_1.row rfl) rfl rfl ?_
      refine RL.call rfl ok41 (c_pickNo z 9 (by rw [hl.1]; decide) (by decide) w17) rfl rfl ?_
      rintro _ w18 ⟨rfl, s19⟩
      have S := S.trans s19
      have S1 := S1.trans s19
      have hbx := hbx.sub s19
      have hb_1 := hb_1.sub s19
      have hb_3 := hb_3.sub s19
      have hF := hF.sub s19
      refine RL.ev (.move rfl) rfl rfl ?_
      refine RL.ev (.extract rfl rfl) rfl rfl ?_
      refine RL.ev (.as (v' := .int .i64 1) (.extract rfl rfl) (by rfl)) rfl rfl ?_
      refine RL.alloc ze67 rfl rfl (fun b_5 w_5 e_5 z_5 hb_5 s_5 => ?_)
      have ge_5 := S.le e_5
      have n1__5 := hbx.ne e_5
      have n_1__5 := hb_1.ne e_5
      have n_3__5 := hb_3.ne e_5
      have d_hF_b_5 := hF.neNew e_5
      have S := S.trans s_5
      have geS1_5 := S1.le e_5
      have S1 := S1.trans s_5
      have hbx := hbx.sub s_5
      have hb_1 := hb_1.sub s_5
      have hb_3 := hb_3.sub s_5
      have hF := hF.sub s_5
      refine RL.store sh67 rfl rfl rfl hb_5 (by exact Nat.le_of_ble_eq_true rfl) (by rfl) rfl (fun w20 z20 hb_5 a20 => ?_)
      have S := S.upd a20 ge_5
      have S1 := S1.upd a20 geS1_5
      have hbx := hbx.upd a20 n1__5
      have hb_1 := hb_1.upd a20 n_1__5
      have hb_3 := hb_3.upd a20 n_3__5
      have hF := hF.updD a20 d_hF_b_5
      have hb_5 : Has w20 b_5 (stp0.cells) _ := hb_5.now (by kernel_rfl)
      refine RL.ev (.assign rfl) rfl rfl ?_
      refine RL.nil (RC.back ?_)
      refine RC.seq ?_
      refine RC.region rfl ?_
      refine RL.ev (.move rfl) rfl rfl ?_
      refine RL.ev (.as (v' := .bool true) (.bin rfl rfl rfl) (congrArg Value.bool (decide_eq_true (rfl)))) rfl rfl ?_
      refine RL.ev (.move rfl) rfl rfl ?_
      refine RL.ev (.move rfl) rfl rfl ?_
      refine RL.ev (.as (v' := .bool true) (.bin rfl rfl rfl) (congrArg Value.bool (decide_eq_true (rfl)))) rfl rfl ?_
      refine RL.ev (.pick_t rfl rfl) rfl rfl ?_
      refine RL.ev (.move rfl) rfl rfl ?_
      refine RL.ev (.loadR (moC p m0) sh45 rfl hb_3.row rfl) rfl rfl ?_
      refine RL.ev (.as (v' := moV p0 m0) (.buildS ze45 pl45 rfl rfl) (by rfl)) rfl rfl ?_
      refine RL.call rfl ok42 (FC.yes (c_MSame p m0 hms p0 m0 m0_S w20 hF.now ⟨Sl.nil _ _ _, Sl.nil _ _ _, Sl.nil _ _ _, Sl.nil _ _ _⟩) ⟨rfl, rfl, rfl, rfl⟩) rfl rfl ?_
      rintro _ w21 ⟨rfl, s22⟩
      have S := S.trans s22
      have S1 := S1.trans s22
      have hbx := hbx.sub s22
      have hb_1 := hb_1.sub s22
      have hb_3 := hb_3.sub s22
      have hF := hF.sub s22
      have hb_5 := hb_5.sub s22
      refine RL.ev (.pick_t rfl rfl) rfl rfl ?_
      refine RL.ev (.assign rfl) rfl rfl ?_
      refine RL.nil (RC.back ?_)
      refine RC.done (rs := [.tmp 0]) (vs := [_]) rfl rfl ⟨rfl, trivial⟩ ?_
      -- end 2
      exact ⟨rfl, S⟩
end Go.Proofs.YtbjmllnddanniaaGreat
set_option linter.unusedVariables false
set_option linter.unusedSimpArgs false
namespace Go.Proofs.YtbjmllnddanniaaGreat
open Go Go.XL
theorem eqL_it (x : It) : eqL x.cells x.cells = true := by simp [eqL, eq1, It.cells]
end Go.Proofs.YtbjmllnddanniaaGreat
set_option linter.unusedVariables false
set_option linter.unusedSimpArgs false
namespace Go.Proofs.YtbjmllnddanniaaGreat
open Go Go.XL
structure Cu where
  r : Int
  lo : Int
  hi : Int
  fin : Bool
def Cu.cells (c : Cu) : List Value := [.int .u64 c.r, .int .i64 c.lo, .int .i64 c.hi, .bool c.fin]
def Cu.val (c : Cu) : Value := .agg c.cells.toArray
def cu0 : Cu := ⟨0, 0, 0, false⟩
def stepC (L : List It) (c : Cu) : Cu × It :=
  if (ceilL c.lo L (it0, false)).2 = false ∨ (ceilL c.lo L (it0, false)).1.k > c.hi then ({ c with fin := true }, it0)
  else if (ceilL c.lo L (it0, false)).1.k = c.hi then ({ c with fin := true }, (ceilL c.lo L (it0, false)).1)
  else ({ c with lo := (ceilL c.lo L (it0, false)).1.k + 1 }, (ceilL c.lo L (it0, false)).1)
theorem c_open (A : Ar) (na fa : Option Addr) (nc fc : Nat) (r : Int) (hr : U64 r) (low high : Int) (w : World) (hA : ArR w na fa A) :
    FC Tryz.prog 29 [arV na fa nc fc A, .int .u64 r, .int .i64 low, .int .i64 high] w (fun v w' => Sub w w' ∧ ∃ c e, v = .tuple #[c.val, .int .i64 e] ∧ (¬ isMap A r → c = cu0 ∧ e = 1) ∧ (isMap A r → c = ⟨r, low, high, false⟩ ∧ e = 0)) := by
  refine FC.intro Tryz.func29 rfl Tryz.ntmps29 rfl ?_
  have S := Sub.refl w
  refine RC.seq ?_
  refine RC.region rfl ?_
  refine RL.box rfl rfl rfl (fun b_4 w_4 e_4 z_4 hb_4 s_4 => ?_)
  have ge_4 := S.le e_4
  have S := S.trans s_4
  have hb_4 : Has w_4 b_4 ([.slice na A.nodes.length nc, .slice fa A.free.length fc]) _ := hb_4
  refine RL.alloc ze97 rfl rfl (fun b_8 w_8 e_8 z_8 hb_8 s_8 => ?_)
  have ge_8 := S.le e_8
  have n_4__8 := hb_4.ne e_8
  have S := S.trans s_8
  have hb_4 := hb_4.sub s_8
  refine RL.ev (.assign rfl) rfl rfl ?_
  refine RL.nil (RC.back ?_)
  refine RC.seq ?_
  refine RC.seq ?_
  refine RC.region rfl ?_
  refine RL.ev (.loadR ([.slice na A.nodes.length nc, .slice fa A.free.length fc]) sh26 rfl hb_4.row rfl) rfl rfl ?_
  refine RL.ev (.move rfl) rfl rfl ?_
  refine RL.call rfl ok54 (c_tRight A na fa nc fc r hr w_8 (hA.sub S)) rfl rfl ?_
  rintro _ w1 ⟨rfl, s2⟩
  have S := S.trans s2
  have hb_4 := hb_4.sub s2
  have hb_8 := hb_8.sub s2
  refine RL.ev (.not rfl) rfl rfl ?_
  refine RL.nil (RC.back ?_)
  refine RC.cond rfl (fun h3 => ?_) (fun h3 => ?_)
  ·
    have hno : ¬ isMap A r := (fun h => by have h2 := h3; rw [isMapB_yes h] at h2; cases h2)
    refine RC.seq ?_
    refine RC.region rfl ?_
    refine RL.ev (.buildS ze97 pl97 rfl rfl) rfl rfl ?_
    refine RL.store sh97 rfl rfl rfl hb_8 (by exact Nat.le_of_ble_eq_true rfl) (by rfl) rfl (fun w4 z4 hb_8 a4 => ?_)
    have S := S.upd a4 ge_8
    have hb_4 := hb_4.upd a4 n_4__8
    have hb_8 : Has w4 b_8 (cu0.cells) _ := hb_8.now (by kernel_rfl)
    refine RL.ev (.assign rfl) rfl rfl ?_
    refine RL.nil (RC.back ?_)
    refine RC.done (rs := [.cell 8 97, .tmp 9]) (vs := [_, _]) rfl rfl ⟨⟨_, rfl, .inr ⟨cu0.cells, sh97, hb_8.row, rfl⟩⟩, rfl, trivial⟩ ?_
    -- end 1
    exact ⟨S, cu0, 1, rfl, fun _ => ⟨rfl, rfl⟩, fun h => absurd h hno⟩
  ·
    have hmb : isMapB A r = true := (by simpa using h3)
    have hmap : isMap A r := (isMapB_iff A r).1 (by simpa using h3)
    refine RC.skip (RC.back ?_)
    refine RC.seq ?_
    refine RC.region rfl ?_
    refine RL.ev (.move rfl) rfl rfl ?_
    refine RL.ev (.move rfl) rfl rfl ?_
    refine RL.ev (.move rfl) rfl rfl ?_
    refine RL.ev (.buildS ze97 pl97 rfl rfl) rfl rfl ?_
    refine RL.store sh97 rfl rfl rfl hb_8 (by exact Nat.le_of_ble_eq_true rfl) (by rfl) rfl (fun w5 z5 hb_8 a5 => ?_)
    have S := S.upd a5 ge_8
    have hb_4 := hb_4.upd a5 n_4__8
    have hb_8 : Has w5 b_8 ((⟨r, low, high, false⟩ : Cu).cells) _ := hb_8.now (by kernel_rfl)
    refine RL.ev (.assign rfl) rfl rfl ?_
    refine RL.nil (RC.back ?_)
    refine RC.done (rs := [.cell 8 97, .tmp 9]) (vs := [_, _]) rfl rfl ⟨⟨_, rfl, .inr ⟨(⟨r, low, high, false⟩ : Cu).cells, sh97, hb_8.row, rfl⟩⟩, rfl, trivial⟩ ?_
    -- end 2
    exact ⟨S, ⟨r, low, high, false⟩, 0, rfl, fun h => absurd hmap h, fun _ => ⟨rfl, rfl⟩⟩
theorem ceil_forms {A : Ar} {r lo e : Int} {x : It} (h1 : ¬ isMap A r → x = it0 ∧ e = 1) (h2 : ∀ l, isMap A r → IsT A r l → x = (ceilL lo l (it0, false)).1 ∧ e = foundE (ceilL lo l (it0, false))) :
    (e = 1 → ¬ isMap A r) ∧ (¬ e = 1 → ∃ L, isMap A r ∧ IsT A r L ∧ x = (ceilL lo L (it0, false)).1 ∧ e = foundE (ceilL lo L (it0, false))) := by
  refine ⟨fun he hm => ?_, fun he => ?_⟩
  · obtain ⟨_, L, hL, _⟩ := id hm
    obtain ⟨_, h3⟩ := h2 L hm hL
    rw [he] at h3
    unfold foundE at h3
    split at h3 <;> omega
  · refine Classical.byContradiction fun hn => ?_
    by_cases hm : isMap A r
    · obtain ⟨_, L, hL, _⟩ := id hm
      exact hn ⟨L, hm, hL, h2 L hm hL⟩
    · exact he (h1 hm).2
theorem foundE_0 {s : It × Bool} (h : foundE s = 0) : s.2 = true := by
  unfold foundE at h
  split at h
  · omega
  · rename_i h2; simpa using h2
theorem foundE_n {s : It × Bool} (h : ¬ foundE s = 0) : s.2 = false := by
  unfold foundE at h
  split at h
  · assumption
  · exact absurd rfl h
theorem ceil_lo {lo : Int} {L : List It} (h : (ceilL lo L (it0, false)).2 = true) : lo ≤ (ceilL lo L (it0, false)).1.k := by
  unfold ceilL at *
  split
  · rename_i y hy
    have := List.mem_of_mem_head? hy
    rw [List.mem_filter] at this
    simpa using this.2
  · rename_i hy
    rw [hy] at h; cases h
theorem c_step (A : Ar) (na fa : Option Addr) (nc fc : Nat) (c : Cu) (hr : U64 c.r) (hlo : I64 c.lo) (hhi : I64 c.hi) (w : World) (hA : ArR w na fa A) :
    FC Tryz.prog 30 [arV na fa nc fc A, c.val] w (fun v w' => Sub w w' ∧ ∃ c2 x e, v = .tuple #[c2.val, x.val, .int .i64 e] ∧ (¬ isMap A c.r → e = 1) ∧ (isMap A c.r → c.fin = true → e = 3) ∧ ∀ L, isMap A c.r → IsT A c.r L → c.fin = false → e = 0 ∧ (c2, x) = stepC L c) := by
  unfold I64 at hhi
  refine FC.intro Tryz.func30 rfl Tryz.ntmps30 rfl ?_
  have S := Sub.refl w
  refine RC.seq ?_
  refine RC.region rfl ?_
  refine RL.box rfl rfl rfl (fun b_2 w_2 e_2 z_2 hb_2 s_2 => ?_)
  have ge_2 := S.le e_2
  have S := S.trans s_2
  have hb_2 : Has w_2 b_2 ([.slice na A.nodes.length nc, .slice fa A.free.length fc]) _ := hb_2
  refine RL.box rfl rfl rfl (fun b_3 w_3 e_3 z_3 hb_3 s_3 => ?_)
  have ge_3 := S.le e_3
  have n_2__3 := hb_2.ne e_3
  have S := S.trans s_3
  have hb_2 := hb_2.sub s_3
  have hb_3 : Has w_3 b_3 (c.cells) _ := hb_3
  refine RL.alloc ze97 rfl rfl (fun b_4 w_4 e_4 z_4 hb_4 s_4 => ?_)
  have ge_4 := S.le e_4
  have n_2__4 := hb_2.ne e_4
  have n_3__4 := hb_3.ne e_4
  have S := S.trans s_4
  have hb_2 := hb_2.sub s_4
  have hb_3 := hb_3.sub s_4
  refine RL.alloc ze51 rfl rfl (fun b_5 w_5 e_5 z_5 hb_5 s_5 => ?_)
  have ge_5 := S.le e_5
  have n_2__5 := hb_2.ne e_5
  have n_3__5 := hb_3.ne e_5
  have n_4__5 := hb_4.ne e_5
  have S := S.trans s_5
  have hb_2 := hb_2.sub s_5
  have hb_3 := hb_3.sub s_5
  have hb_4 := hb_4.sub s_5
  refine RL.ev (.assign rfl) rfl rfl ?_
  refine RL.nil (RC.back ?_)
  refine RC.seq ?_
  refine RC.region rfl ?_
  refine RL.ev (.loadR ([.slice na A.nodes.length nc, .slice fa A.free.length fc]) sh26 rfl hb_2.row rfl) rfl rfl ?_
  refine RL.ev (.field0 fo97_0 rfl) rfl rfl ?_
  refine RL.ev (.load1 sh31 rfl (hb_3.cell rfl)) rfl rfl ?_
  refine RL.ev (.field0 fo97_1 rfl) rfl rfl ?_
  refine RL.ev (.load1 sh2 rfl (hb_3.cell rfl)) rfl rfl ?_
  refine RL.call rfl ok32 (c_oCeil A na fa nc fc c.r hr c.lo w_5 (hA.sub S)) rfl rfl ?_
  rintro _ w1 ⟨s2, x, e, rfl, hx1, hx2⟩
  have S := S.trans s2
  have hb_2 := hb_2.sub s2
  have hb_3 := hb_3.sub s2
  have hb_4 := hb_4.sub s2
  have hb_5 := hb_5.sub s2
  have hf := ceil_forms hx1 hx2
  refine RL.ev (.move rfl) rfl rfl ?_
  refine RL.ev (.extract rfl rfl) rfl rfl ?_
  refine RL.ev (.extract rfl rfl) rfl rfl ?_
  refine RL.alloc ze51 rfl rfl (fun b_7 w_7 e_7 z_7 hb_7 s_7 => ?_)
  have ge_7 := S.le e_7
  have n_2__7 := hb_2.ne e_7
  have n_3__7 := hb_3.ne e_7
  have n_4__7 := hb_4.ne e_7
  have n_5__7 := hb_5.ne e_7
  have S := S.trans s_7
  have hb_2 := hb_2.sub s_7
  have hb_3 := hb_3.sub s_7
  have hb_4 := hb_4.sub s_7
  have hb_5 := hb_5.sub s_7
  refine RL.store sh51 rfl rfl rfl hb_7 (by exact Nat.le_of_ble_eq_true rfl) (by rfl) rfl (fun w3 z3 hb_7 a3 => ?_)
  have S := S.upd a3 ge_7
  have hb_2 := hb_2.upd a3 n_2__7
  have hb_3 := hb_3.upd a3 n_3__7
  have hb_4 := hb_4.upd a3 n_4__7
  have hb_5 := hb_5.upd a3 n_5__7
  have hb_7 : Has w3 b_7 (x.cells) _ := hb_7.now (by kernel_rfl)
  refine RL.ev (.assign rfl) rfl rfl ?_
  refine RL.nil (RC.back ?_)
  refine RC.seq ?_
  refine RC.block ?_
  refine RC.seq ?_
  refine RC.region rfl ?_
  refine RL.ev (.move rfl) rfl rfl ?_
  refine RL.ev (.bin rfl rfl rfl) rfl rfl ?_
  refine RL.ev (.assign rfl) rfl rfl ?_
  refine RL.nil (RC.back ?_)
  refine RC.cond_dec rfl (fun h4 => ?_) (fun h4 => ?_)
  ·
    have hno := hf.1 h4
    refine RC.seq ?_
    refine RC.region rfl ?_
    refine RL.ev (.buildS ze97 pl97 rfl rfl) rfl rfl ?_
    refine RL.ev (.buildS ze51 pl51 rfl rfl) rfl rfl ?_
    refine RL.ev (.move rfl) rfl rfl ?_
    refine RL.store sh97 rfl rfl rfl hb_4 (by exact Nat.le_of_ble_eq_true rfl) (by rfl) rfl (fun w5 z5 hb_4 a5 => ?_)
    have S := S.upd a5 ge_4
    have hb_2 := hb_2.upd a5 n_2__4
    have hb_3 := hb_3.upd a5 n_3__4
    have hb_5 := hb_5.upd a5 n_4__5.symm
    have hb_7 := hb_7.upd a5 n_4__7.symm
    have hb_4 : Has w5 b_4 (cu0.cells) _ := hb_4.now (by kernel_rfl)
    refine RL.store sh51 rfl rfl rfl hb_5 (by exact Nat.le_of_ble_eq_true rfl) (by rfl) rfl (fun w6 z6 hb_5 a6 => ?_)
    have S := S.upd a6 ge_5
    have hb_2 := hb_2.upd a6 n_2__5
    have hb_3 := hb_3.upd a6 n_3__5
    have hb_4 := hb_4.upd a6 n_4__5
    have hb_7 := hb_7.upd a6 n_5__7.symm
    have hb_5 : Has w6 b_5 (it0.cells) _ := hb_5.now (by kernel_rfl)
    refine RL.ev (.assign rfl) rfl rfl ?_
    refine RL.nil (RC.back ?_)
    refine RC.done (rs := [.cell 4 97, .cell 5 51, .tmp 6]) (vs := [_, _, _]) rfl rfl ⟨⟨_, rfl, .inr ⟨cu0.cells, sh97, hb_4.row, rfl⟩⟩, ⟨_, rfl, .inr ⟨it0.cells, sh51, hb_5.row, rfl⟩⟩, rfl, trivial⟩ ?_
    -- end 1
    exact ⟨S, cu0, it0, e, rfl, fun h => (hx1 h).2, fun h => absurd h hno, fun L h => absurd h hno⟩
  ·
    obtain ⟨L, hm, hL, hxe, hee⟩ := hf.2 h4
    refine RC.seq ?_
    refine RC.region rfl ?_
    refine RL.ev (.field0 fo97_3 rfl) rfl rfl ?_
    refine RL.ev (.load1 sh4 rfl (hb_3.cell rfl)) rfl rfl ?_
    refine RL.ev (.assign rfl) rfl rfl ?_
    refine RL.nil (RC.back ?_)
    refine RC.cond rfl (fun h7 => ?_) (fun h7 => ?_)
    ·
      have hfin : c.fin = true := h7
      refine RC.seq ?_
      refine RC.region rfl ?_
      refine RL.ev (.buildS ze97 pl97 rfl rfl) rfl rfl ?_
      refine RL.ev (.buildS ze51 pl51 rfl rfl) rfl rfl ?_
      refine RL.store sh97 rfl rfl rfl hb_4 (by exact Nat.le_of_ble_eq_true rfl) (by rfl) rfl (fun w8 z8 hb_4 a8 => ?_)
      have S := S.upd a8 ge_4
      have hb_2 := hb_2.upd a8 n_2__4
      have hb_3 := hb_3.upd a8 n_3__4
      have hb_5 := hb_5.upd a8 n_4__5.symm
      have hb_7 := hb_7.upd a8 n_4__7.symm
      have hb_4 : Has w8 b_4 (cu0.cells) _ := hb_4.now (by kernel_rfl)
      refine RL.store sh51 rfl rfl rfl hb_5 (by exact Nat.le_of_ble_eq_true rfl) (by rfl) rfl (fun w9 z9 hb_5 a9 => ?_)
      have S := S.upd a9 ge_5
      have hb_2 := hb_2.upd a9 n_2__5
      have hb_3 := hb_3.upd a9 n_3__5
      have hb_4 := hb_4.upd a9 n_4__5
      have hb_7 := hb_7.upd a9 n_5__7.symm
      have hb_5 : Has w9 b_5 (it0.cells) _ := hb_5.now (by kernel_rfl)
      refine RL.ev (.assign rfl) rfl rfl ?_
      refine RL.nil (RC.back ?_)
      refine RC.done (rs := [.cell 4 97, .cell 5 51, .tmp 6]) (vs := [_, _, _]) rfl rfl ⟨⟨_, rfl, .inr ⟨cu0.cells, sh97, hb_4.row, rfl⟩⟩, ⟨_, rfl, .inr ⟨it0.cells, sh51, hb_5.row, rfl⟩⟩, rfl, trivial⟩ ?_
      -- end 2
      exact ⟨S, cu0, it0, 3, rfl, fun h => absurd hm h, fun _ _ => rfl, fun L' _ _ h => by rw [hfin] at h; cases h⟩
    ·
      have hfin : c.fin = false := h7
      refine RC.seq ?_
      refine RC.region rfl ?_
      refine RL.ev (.move rfl) rfl rfl ?_
      refine RL.ev (.bin rfl rfl rfl) rfl rfl ?_
      refine RL.ev (.move rfl) rfl rfl ?_
      refine RL.split 36 rfl (fun h10 => ?_) (fun h10 => ?_)
      ·
        have he0 : ¬ e = 0 := h10
        refine RL.off rfl rfl ?_
        refine RL.off rfl rfl ?_
        refine RL.off rfl rfl ?_
        refine RL.off rfl rfl ?_
        refine RL.off rfl rfl ?_
        refine RL.ev (.pick_t rfl rfl) rfl rfl ?_
        refine RL.ev (.assign rfl) rfl rfl ?_
        refine RL.nil (RC.back ?_)
        refine RC.cond_t rfl ?_
        refine RC.seq ?_
        refine RC.region rfl ?_
        refine RL.ev (.field0 fo97_3 rfl) rfl rfl ?_
        refine RL.store sh4 rfl rfl rfl hb_3 (by exact Nat.le_of_ble_eq_true rfl) (by rfl) rfl (fun w11 z11 hb_3 a11 => ?_)
        have S := S.upd a11 ge_3
        have hb_2 := hb_2.upd a11 n_2__3
        have hb_4 := hb_4.upd a11 n_3__4.symm
        have hb_5 := hb_5.upd a11 n_3__5.symm
        have hb_7 := hb_7.upd a11 n_3__7.symm
        have hb_3 : Has w11 b_3 (({ c with fin := true } : Cu).cells) _ := hb_3
        refine RL.nil (RC.back ?_)
        refine RC.seq ?_
        refine RC.region rfl ?_
        refine RL.ev (.loadR (({ c with fin := true } : Cu).cells) sh97 rfl hb_3.row rfl) rfl rfl ?_
        refine RL.ev (.buildS ze51 pl51 rfl rfl) rfl rfl ?_
        refine RL.store sh97 rfl rfl rfl hb_4 (by exact Nat.le_of_ble_eq_true rfl) (by rfl) rfl (fun w12 z12 hb_4 a12 => ?_)
        have S := S.upd a12 ge_4
        have hb_2 := hb_2.upd a12 n_2__4
        have hb_3 := hb_3.upd a12 n_3__4
        have hb_5 := hb_5.upd a12 n_4__5.symm
        have hb_7 := hb_7.upd a12 n_4__7.symm
        have hb_4 : Has w12 b_4 (({ c with fin := true } : Cu).cells) _ := hb_4.now (by kernel_rfl)
        refine RL.store sh51 rfl rfl rfl hb_5 (by exact Nat.le_of_ble_eq_true rfl) (by rfl) rfl (fun w13 z13 hb_5 a13 => ?_)
        have S := S.upd a13 ge_5
        have hb_2 := hb_2.upd a13 n_2__5
        have hb_3 := hb_3.upd a13 n_3__5
        have hb_4 := hb_4.upd a13 n_4__5
        have hb_7 := hb_7.upd a13 n_5__7.symm
        have hb_5 : Has w13 b_5 (it0.cells) _ := hb_5.now (by kernel_rfl)
        refine RL.ev (.assign rfl) rfl rfl ?_
        refine RL.nil (RC.back ?_)
        refine RC.done (rs := [.cell 4 97, .cell 5 51, .tmp 6]) (vs := [_, _, _]) rfl rfl ⟨⟨_, rfl, .inr ⟨({ c with fin := true } : Cu).cells, sh97, hb_4.row, rfl⟩⟩, ⟨_, rfl, .inr ⟨it0.cells, sh51, hb_5.row, rfl⟩⟩, rfl, trivial⟩ ?_
        -- end 3
        exact ⟨S, { c with fin := true }, it0, 0, rfl, fun h => absurd hm h, fun _ h => (by rw [hfin] at h; cases h), fun L' _ hL' _ => ⟨rfl, by rw [hL'.unique hL, stepC, if_pos (.inl (foundE_n (hee ▸ he0)))]⟩⟩
      ·
        have he0 : e = 0 := Decidable.not_not.1 h10
        have hfo := foundE_0 (hee ▸ he0)
        have hlx := ceil_lo hfo
        rw [← hxe] at hlx
        unfold I64 at hlo
        refine RL.ev (.field0 fo51_0 rfl) rfl rfl ?_
        refine RL.ev (.load1 sh2 rfl (hb_7.cell rfl)) rfl rfl ?_
        refine RL.ev (.field0 fo97_2 rfl) rfl rfl ?_
        refine RL.ev (.load1 sh2 rfl (hb_3.cell rfl)) rfl rfl ?_
        refine RL.ev (.bin rfl rfl rfl) rfl rfl ?_
        refine RL.ev (.pick_f rfl rfl) rfl rfl ?_
        refine RL.ev (.assign rfl) rfl rfl ?_
        refine RL.nil (RC.back ?_)
        refine RC.cond_dec rfl (fun h14 => ?_) (fun h14 => ?_)
        ·
          have hgt : x.k > c.hi := h14
          refine RC.seq ?_
          refine RC.region rfl ?_
          refine RL.ev (.field0 fo97_3 rfl) rfl rfl ?_
          refine RL.store sh4 rfl rfl rfl hb_3 (by exact Nat.le_of_ble_eq_true rfl) (by rfl) rfl (fun w15 z15 hb_3 a15 => ?_)
          have S := S.upd a15 ge_3
          have hb_2 := hb_2.upd a15 n_2__3
          have hb_4 := hb_4.upd a15 n_3__4.symm
          have hb_5 := hb_5.upd a15 n_3__5.symm
          have hb_7 := hb_7.upd a15 n_3__7.symm
          have hb_3 : Has w15 b_3 (({ c with fin := true } : Cu).cells) _ := hb_3
          refine RL.nil (RC.back ?_)
          refine RC.seq ?_
          refine RC.region rfl ?_
          refine RL.ev (.loadR (({ c with fin := true } : Cu).cells) sh97 rfl hb_3.row rfl) rfl rfl ?_
          refine RL.ev (.buildS ze51 pl51 rfl rfl) rfl rfl ?_
          refine RL.store sh97 rfl rfl rfl hb_4 (by exact Nat.le_of_ble_eq_true rfl) (by rfl) rfl (fun w16 z16 hb_4 a16 => ?_)
          have S := S.upd a16 ge_4
          have hb_2 := hb_2.upd a16 n_2__4
          have hb_3 := hb_3.upd a16 n_3__4
          have hb_5 := hb_5.upd a16 n_4__5.symm
          have hb_7 := hb_7.upd a16 n_4__7.symm
          have hb_4 : Has w16 b_4 (({ c with fin := true } : Cu).cells) _ := hb_4.now (by kernel_rfl)
          refine RL.store sh51 rfl rfl rfl hb_5 (by exact Nat.le_of_ble_eq_true rfl) (by rfl) rfl (fun w17 z17 hb_5 a17 => ?_)
          have S := S.upd a17 ge_5
          have hb_2 := hb_2.upd a17 n_2__5
          have hb_3 := hb_3.upd a17 n_3__5
          have hb_4 := hb_4.upd a17 n_4__5
          have hb_7 := hb_7.upd a17 n_5__7.symm
          have hb_5 : Has w17 b_5 (it0.cells) _ := hb_5.now (by kernel_rfl)
          refine RL.ev (.assign rfl) rfl rfl ?_
          refine RL.nil (RC.back ?_)
          refine RC.done (rs := [.cell 4 97, .cell 5 51, .tmp 6]) (vs := [_, _, _]) rfl rfl ⟨⟨_, rfl, .inr ⟨({ c with fin := true } : Cu).cells, sh97, hb_4.row, rfl⟩⟩, ⟨_, rfl, .inr ⟨it0.cells, sh51, hb_5.row, rfl⟩⟩, rfl, trivial⟩ ?_
          -- end 4
          exact ⟨S, { c with fin := true }, it0, 0, rfl, fun h => absurd hm h, fun _ h => (by rw [hfin] at h; cases h), fun L' _ hL' _ => ⟨rfl, by rw [hL'.unique hL, stepC, ← hxe, if_pos (.inr hgt)]⟩⟩
        ·
          have hgt : ¬ x.k > c.hi := h14
          refine RC.seq ?_
          refine RC.region rfl ?_
          refine RL.ev (.field0 fo51_0 rfl) rfl rfl ?_
          refine RL.ev (.load1 sh2 rfl (hb_7.cell rfl)) rfl rfl ?_
          refine RL.ev (.field0 fo97_2 rfl) rfl rfl ?_
          refine RL.ev (.load1 sh2 rfl (hb_3.cell rfl)) rfl rfl ?_
          refine RL.ev (.bin rfl rfl rfl) rfl rfl ?_
          refine RL.ev (.assign rfl) rfl rfl ?_
          refine RL.nil (RC.back ?_)
          refine RC.cond_dec rfl (fun h18 => ?_) (fun h18 => ?_)
          ·
            have heq : x.k = c.hi := h18
            refine RC.region rfl ?_
            refine RL.ev (.field0 fo97_3 rfl) rfl rfl ?_
            refine RL.store sh4 rfl rfl rfl hb_3 (by exact Nat.le_of_ble_eq_true rfl) (by rfl) rfl (fun w19 z19 hb_3 a19 => ?_)
            have S := S.upd a19 ge_3
            have hb_2 := hb_2.upd a19 n_2__3
            have hb_4 := hb_4.upd a19 n_3__4.symm
            have hb_5 := hb_5.upd a19 n_3__5.symm
            have hb_7 := hb_7.upd a19 n_3__7.symm
            have hb_3 : Has w19 b_3 (({ c with fin := true } : Cu).cells) _ := hb_3
            refine RL.nil (RC.back ?_)
            refine RC.seq ?_
            refine RC.drawD (fun k => k = b_4 ∨ k = b_5) [2, 3] w19.heap.size 5 rfl rfl mxo (fun w20 s21 => ?_)
            have hNN : ∀ k, ((k = b_4 ∨ k = b_5) ∨ w19.heap.size ≤ k) → w.heap.size ≤ k := fun k e => e.elim (fun e => e.elim (fun e => e ▸ ge_4) (fun e => e ▸ ge_5)) (fun e => Nat.le_trans S.size e)
            have ent_S := S.size
            have hN0 : ∀ k, w19.heap.size ≤ k → w.heap.size ≤ k := fun k e => Nat.le_trans S.size e
            have ltD_b_2 := hb_2.lt
            have ltD_b_3 := hb_3.lt
            have ltD_b_4 := hb_4.lt
            have ltD_b_5 := hb_5.lt
            have ltD_b_7 := hb_7.lt
            have szD := Nat.le_refl w19.heap.size
            have S := S.trans s21
            have hb_2 := hb_2.sub s21
            have hb_3 := hb_3.sub s21
            have hb_4 := hb_4.sub s21
            have hb_5 := hb_5.sub s21
            have hb_7 := hb_7.sub s21
            have szD := Nat.le_trans szD s21.size
            refine RD.take 0 rfl (by kernel_rfl) (by kernel_rfl) (by kernel_rfl) (fun w' s' => .loadR (({ c with fin := true } : Cu).cells) sh97 rfl (hb_3.step s' (fun e => e.elim (fun e => e.elim (fun e => n_3__4 e) (fun e => n_3__5 e)) (fun e => Nat.not_le.2 ltD_b_3 e))).row rfl) rfl rfl ?_
            refine RD.take 1 rfl (by kernel_rfl) (by kernel_rfl) (by kernel_rfl) (fun w' s' => .loadR (x.cells) sh51 rfl (hb_7.step s' (fun e => e.elim (fun e => e.elim (fun e => n_4__7.symm e) (fun e => n_5__7.symm e)) (fun e => Nat.not_le.2 ltD_b_7 e))).row rfl) rfl rfl ?_
            refine RD.all [2] (by kernel_rfl) rfl (RDs.cons rfl ?_ (RDs.nil))
            refine RL.store sh97 rfl rfl rfl hb_4 (by exact Nat.le_of_ble_eq_true rfl) (by rfl) rfl (fun w22 z22 hb_4 a22 => ?_)
            have S := S.upd a22 ge_4
            have hb_2 := hb_2.upd a22 n_2__4
            have hb_3 := hb_3.upd a22 n_3__4
            have hb_5 := hb_5.upd a22 n_4__5.symm
            have hb_7 := hb_7.upd a22 n_4__7.symm
            have szD := Nat.le_trans szD a22.size
            have hb_4 : Has w22 b_4 (({ c with fin := true } : Cu).cells) _ := hb_4.now (by kernel_rfl)
            refine RD.backW rfl (a22.mono fun k _ e => e ▸ (.inl (.inl rfl))) ?_
            refine RD.all [3] (by kernel_rfl) rfl (RDs.cons rfl ?_ (RDs.nil))
            refine RL.store sh51 rfl rfl rfl hb_5 (by exact Nat.le_of_ble_eq_true rfl) (by rfl) rfl (fun w23 z23 hb_5 a23 => ?_)
            have S := S.upd a23 ge_5
            have hb_2 := hb_2.upd a23 n_2__5
            have hb_3 := hb_3.upd a23 n_3__5
            have hb_4 := hb_4.upd a23 n_4__5
            have hb_7 := hb_7.upd a23 n_5__7.symm
            have szD := Nat.le_trans szD a23.size
            have hb_5 : Has w23 b_5 (x.cells) _ := hb_5.now (by kernel_rfl)
            refine RD.backW rfl (a23.mono fun k _ e => e ▸ (.inl (.inr (rfl)))) ?_
            refine RD.take 4 rfl (by kernel_rfl) (by kernel_rfl) (by kernel_rfl) (fun w' s' => .assign rfl) rfl rfl ?_
            refine RD.done (by kernel_rfl) (RC.back ?_)
            refine RC.done (rs := [.cell 4 97, .cell 5 51, .tmp 6]) (vs := [_, _, _]) rfl rfl ⟨⟨_, rfl, .inr ⟨({ c with fin := true } : Cu).cells, sh97, hb_4.row, rfl⟩⟩, ⟨_, rfl, .inr ⟨x.cells, sh51, hb_5.row, rfl⟩⟩, rfl, trivial⟩ ?_
            -- end 5
            exact ⟨S, { c with fin := true }, x, 0, rfl, fun h => absurd hm h, fun _ h => (by rw [hfin] at h; cases h), fun L' _ hL' _ => ⟨rfl, by rw [hL'.unique hL, stepC, ← hxe, if_neg (fun h => h.elim (fun h => by rw [hfo] at h; cases h) hgt), if_pos heq]⟩⟩
          ·
            have heq : ¬ x.k = c.hi := h18
            refine RC.region rfl ?_
            refine RL.ev (.field0 fo51_0 rfl) rfl rfl ?_
            refine RL.ev (.load1 sh2 rfl (hb_7.cell rfl)) rfl rfl ?_
            refine RL.ev (.as (.bin rfl rfl rfl) (wi64 (y := x.k + 1) (by rfl) (by omega))) rfl rfl ?_
            refine RL.ev (.field0 fo97_1 rfl) rfl rfl ?_
            refine RL.store sh2 rfl rfl rfl hb_3 (by exact Nat.le_of_ble_eq_true rfl) (by rfl) rfl (fun w24 z24 hb_3 a24 => ?_)
            have S := S.upd a24 ge_3
            have hb_2 := hb_2.upd a24 n_2__3
            have hb_4 := hb_4.upd a24 n_3__4.symm
            have hb_5 := hb_5.upd a24 n_3__5.symm
            have hb_7 := hb_7.upd a24 n_3__7.symm
            have hb_3 : Has w24 b_3 (({ c with lo := x.k + 1 } : Cu).cells) _ := hb_3
            refine RL.nil (RC.back ?_)
            refine RC.seq ?_
            refine RC.drawD (fun k => k = b_4 ∨ k = b_5) [2, 3] w24.heap.size 5 rfl rfl mxo (fun w25 s26 => ?_)
            have hNN : ∀ k, ((k = b_4 ∨ k = b_5) ∨ w24.heap.size ≤ k) → w.heap.size ≤ k := fun k e => e.elim (fun e => e.elim (fun e => e ▸ ge_4) (fun e => e ▸ ge_5)) (fun e => Nat.le_trans S.size e)
            have ent_S := S.size
            have hN0 : ∀ k, w24.heap.size ≤ k → w.heap.size ≤ k := fun k e => Nat.le_trans S.size e
            have ltD_b_2 := hb_2.lt
            have ltD_b_3 := hb_3.lt
            have ltD_b_4 := hb_4.lt
            have ltD_b_5 := hb_5.lt
            have ltD_b_7 := hb_7.lt
            have szD := Nat.le_refl w24.heap.size
            have S := S.trans s26
            have hb_2 := hb_2.sub s26
            have hb_3 := hb_3.sub s26
            have hb_4 := hb_4.sub s26
            have hb_5 := hb_5.sub s26
            have hb_7 := hb_7.sub s26
            have szD := Nat.le_trans szD s26.size
            refine RD.take 0 rfl (by kernel_rfl) (by kernel_rfl) (by kernel_rfl) (fun w' s' => .loadR (({ c with lo := x.k + 1 } : Cu).cells) sh97 rfl (hb_3.step s' (fun e => e.elim (fun e => e.elim (fun e => n_3__4 e) (fun e => n_3__5 e)) (fun e => Nat.not_le.2 ltD_b_3 e))).row rfl) rfl rfl ?_
            refine RD.take 1 rfl (by kernel_rfl) (by kernel_rfl) (by kernel_rfl) (fun w' s' => .loadR (x.cells) sh51 rfl (hb_7.step s' (fun e => e.elim (fun e => e.elim (fun e => n_4__7.symm e) (fun e => n_5__7.symm e)) (fun e => Nat.not_le.2 ltD_b_7 e))).row rfl) rfl rfl ?_
            refine RD.all [2] (by kernel_rfl) rfl (RDs.cons rfl ?_ (RDs.nil))
            refine RL.store sh97 rfl rfl rfl hb_4 (by exact Nat.le_of_ble_eq_true rfl) (by rfl) rfl (fun w27 z27 hb_4 a27 => ?_)
            have S := S.upd a27 ge_4
            have hb_2 := hb_2.upd a27 n_2__4
            have hb_3 := hb_3.upd a27 n_3__4
            have hb_5 := hb_5.upd a27 n_4__5.symm
            have hb_7 := hb_7.upd a27 n_4__7.symm
            have szD := Nat.le_trans szD a27.size
            have hb_4 : Has w27 b_4 (({ c with lo := x.k + 1 } : Cu).cells) _ := hb_4.now (by kernel_rfl)
            refine RD.backW rfl (a27.mono fun k _ e => e ▸ (.inl (.inl rfl))) ?_
            refine RD.all [3] (by kernel_rfl) rfl (RDs.cons rfl ?_ (RDs.nil))
            refine RL.store sh51 rfl rfl rfl hb_5 (by exact Nat.le_of_ble_eq_true rfl) (by rfl) rfl (fun w28 z28 hb_5 a28 => ?_)
            have S := S.upd a28 ge_5
            have hb_2 := hb_2.upd a28 n_2__5
            have hb_3 := hb_3.upd a28 n_3__5
            have hb_4 := hb_4.upd a28 n_4__5
            have hb_7 := hb_7.upd a28 n_5__7.symm
            have szD := Nat.le_trans szD a28.size
            have hb_5 : Has w28 b_5 (x.cells) _ := hb_5.now (by kernel_rfl)
            refine RD.backW rfl (a28.mono fun k _ e => e ▸ (.inl (.inr (rfl)))) ?_
            refine RD.take 4 rfl (by kernel_rfl) (by kernel_rfl) (by kernel_rfl) (fun w' s' => .assign rfl) rfl rfl ?_
            refine RD.done (by kernel_rfl) (RC.back ?_)
            refine RC.done (rs := [.cell 4 97, .cell 5 51, .tmp 6]) (vs := [_, _, _]) rfl rfl ⟨⟨_, rfl, .inr ⟨({ c with lo := x.k + 1 } : Cu).cells, sh97, hb_4.row, rfl⟩⟩, ⟨_, rfl, .inr ⟨x.cells, sh51, hb_5.row, rfl⟩⟩, rfl, trivial⟩ ?_
            -- end 6
            exact ⟨S, { c with lo := x.k + 1 }, x, 0, rfl, fun h => absurd hm h, fun _ h => (by rw [hfin] at h; cases h), fun L' _ hL' _ => ⟨rfl, by rw [hL'.unique hL, stepC, ← hxe, if_neg (fun h => h.elim (fun h => by rw [hfo] at h; cases h) hgt), if_neg heq]⟩⟩
end Go.Proofs.YtbjmllnddanniaaGreat
set_option linter.unusedVariables false
set_option linter.unusedSimpArgs false
namespace Go.Proofs.YtbjmllnddanniaaGreat
open Go Go.XL
def suc1 (i : Int) : Int := i + 1
def mod60 (x : Int) : Int := x % 60
/-- from where on the key of a place is looked for -/
def loAt (R : List It) (s : Int) : Nat → Int
  | 0 => s
  | i + 1 => (R.getD i it0).k + 1
theorem loAt_succ {R : List It} {s : Int} {i : Nat} {y : It} (h : R[i]? = some y) : loAt R s (i + 1) = y.k + 1 := by
  rw [loAt, List.getD_eq_getElem?_getD, h]; rfl
theorem filt_drop {R : List It} (hs : Srt R) {s : Int} (h0 : ∀ x ∈ R, s ≤ x.k) : ∀ i, i ≤ R.length → R.filter (fun x => decide (loAt R s i ≤ x.k)) = R.drop i
  | 0, _ => by rw [List.drop_zero, List.filter_eq_self]; intro x hx; exact decide_eq_true (h0 x hx)
  | i + 1, hi => by
    obtain ⟨y, hy⟩ := getSome (l := R) (i := i) (by omega)
    rw [loAt_succ hy]
    have hd : R.drop i = y :: R.drop (i + 1) := by
      rw [List.drop_eq_getElem_cons (by omega)]
      rw [List.getElem?_eq_getElem (by omega)] at hy
      rw [Option.some.inj hy]
    have e : R = R.take i ++ y :: R.drop (i + 1) := by rw [← hd, List.take_append_drop]
    have hp := hs
    rw [Srt, e, List.pairwise_append] at hp
    have hp2 := List.pairwise_cons.1 hp.2.1
    conv => lhs; rw [e]
    rw [List.filter_append, List.filter_cons, if_neg (by simp; omega)]
    have e1 : (R.take i).filter (fun x => decide (y.k + 1 ≤ x.k)) = [] := by
      rw [List.filter_eq_nil_iff]; intro x hx; have := hp.2.2 x hx y (by simp); simp; omega
    have e2 : (R.drop (i + 1)).filter (fun x => decide (y.k + 1 ≤ x.k)) = R.drop (i + 1) := by
      rw [List.filter_eq_self]; intro x hx; have := hp2.1 x hx; simp; omega
    rw [e1, e2, List.nil_append]
theorem ceil_at {R : List It} (hs : Srt R) {s : Int} (h0 : ∀ x ∈ R, s ≤ x.k) {i : Nat} {y : It} (hy : R[i]? = some y) : ceilL (loAt R s i) R (it0, false) = (y, true) := by
  have hi := lt_of_get hy
  unfold ceilL
  rw [filt_drop hs h0 i (by omega), List.head?_drop, hy]
theorem ceil_end {R : List It} (hs : Srt R) {s : Int} (h0 : ∀ x ∈ R, s ≤ x.k) : ceilL (loAt R s R.length) R (it0, false) = (it0, false) := by
  unfold ceilL
  rw [filt_drop hs h0 _ (Nat.le_refl _), List.drop_length]; rfl
theorem step_at {R : List It} (hs : Srt R) (h0 : ∀ x ∈ R, 0 ≤ x.k ∧ x.k < 60) {r : Int} {i : Nat} {y : It} (hy : R[i]? = some y) : stepC R ⟨r, loAt R 0 i, 99, false⟩ = (⟨r, loAt R 0 (i + 1), 99, false⟩, y) := by
  have h1 := h0 y (List.mem_of_getElem? hy)
  unfold stepC
  simp only [ceil_at hs (fun x hx => (h0 x hx).1) hy, loAt_succ hy]
  rw [if_neg (by rintro (h | h); cases h; omega), if_neg (by omega)]
theorem step_end {R : List It} (hs : Srt R) (h0 : ∀ x ∈ R, 0 ≤ x.k ∧ x.k < 60) {r : Int} : (stepC R ⟨r, loAt R 0 R.length, 99, false⟩).2 = it0 := by
  unfold stepC
  simp only [ceil_end hs (fun x hx => (h0 x hx).1)]
  rw [if_pos (.inl trivial)]
theorem loAt_I64 {R : List It} (h0 : ∀ x ∈ R, 0 ≤ x.k ∧ x.k < 60) {s : Int} (hs : I64 s) : ∀ i, i ≤ R.length → I64 (loAt R s i)
  | 0, _ => hs
  | i + 1, hi => by
    obtain ⟨y, hy⟩ := getSome (l := R) (i := i) (by omega)
    have := h0 y (List.mem_of_getElem? hy)
    rw [loAt_succ hy]; unfold I64; omega
set_option maxHeartbeats 1000000 in
theorem law_TopRange (w : World) (l : List Int) (pa : Option Addr) (pc : Nat) (hlc : l.length ≤ pc) (hcm : pc ≤ maxLen) (hs : Sl w pa 1 (l.map fun x => [i6 x])) (hli : ∀ x ∈ l, I64 x) :
    FC Tryz.prog 9 [.slice pa l.length pc] w (Val (.bool true) w) := by
  have hll : l.length ≤ 9223372036854775807 := Nat.le_trans hlc (Nat.le_trans hcm (by decide))
  refine FC.intro Tryz.func9 rfl Tryz.ntmps9 rfl ?_
  have S := Sub.refl w
  refine RC.seq ?_
  refine RC.region rfl ?_
  refine RL.ev (.assign rfl) rfl rfl ?_
  refine RL.nil (RC.back ?_)
  refine RC.seq ?_
  refine RC.region rfl ?_
  refine RL.ev (.assign rfl) rfl rfl ?_
  refine RL.nil (RC.back ?_)
  refine RC.seq ?_
  refine RC.seq ?_
  refine RC.region rfl ?_
  refine RL.ev (.move rfl) rfl rfl ?_
  refine RL.ev (.len sl43 rfl) rfl rfl ?_
  refine RL.ev (.move rfl) rfl rfl ?_
  refine RL.nil (RC.back ?_)
  refine RC.block ?_
  refine RC.loop (α := Nat × Option Addr × Nat × Nat) (fun x => [(3, .slice x.2.1 x.2.2.1 x.2.2.2), (23, .slice pa l.length pc), (24, .int .i64 (l.length : Int)), (25, .int .i64 (x.1 : Int))]) (fun x w1 => (x.1 ≤ l.length ∧ x.2.2.1 = (rowN mod60 suc1 25 l x.1).length ∧ (rowN mod60 suc1 25 l x.1).length ≤ x.2.2.2) ∧ Sl w1 x.2.1 2 ((rowN mod60 suc1 25 l x.1).map It.cells) ∧ Sub w w1) (fun x => l.length - x.1) (0, none, 0, 0) (keep_of (by repeat (first | exact trivial | refine And.intro rfl ?_))) (⟨⟨Nat.zero_le _, rfl, Nat.zero_le _⟩, Sl.nil _ _ _, S⟩) (fun x w1 hJ => ?_)
  obtain ⟨i, ra, rm, rc⟩ := x; obtain ⟨⟨hi, hm, hc⟩, hr, S⟩ := hJ; simp only [] at hi hm hc hr; have hrl := rowN_len mod60 suc1 25 l i
  refine RC.seq ?_
  refine RC.region rfl ?_
  refine RL.ev (.bin rfl rfl rfl) rfl rfl ?_
  refine RL.nil (RC.back ?_)
  refine RC.seq ?_
  refine RC.cond_dec rfl (fun h2 => ?_) (fun h2 => ?_)
  ·
    obtain ⟨x, hx⟩ := getSome (l := l) (i := i) (by omega)
    have hxi : -9223372036854775808 ≤ x ∧ x ≤ 9223372036854775807 := hli x (List.mem_of_getElem? hx)
    have nmx := norm_mod x 60 (by decide)
    refine RC.skip (RC.back ?_)
    refine RC.seq ?_
    refine RC.block ?_
    refine RC.seq ?_
    refine RC.region rfl ?_
    refine RL.ev (.move rfl) rfl rfl ?_
    refine RL.ev (.indexS sl43 rfl rfl (by omega) (hs.is (i := 0) (by simp only [List.length_map, List.length_cons, List.length_nil]; omega))) rfl rfl ?_
    refine RL.ev (.load1 sh2 rfl ((hs.sub S).one (enc := i6) (i := i) hx)) rfl rfl ?_
    refine RL.ev (.assign rfl) rfl rfl ?_
    refine RL.ev (.assign rfl) rfl rfl ?_
    refine RL.nil (RC.back ?_)
    refine RC.seq ?_
    refine RC.region rfl ?_
    refine RL.ev (.move rfl) rfl rfl ?_
    refine RL.ev (.bin rfl rfl rfl) rfl rfl ?_
    refine RL.nil (RC.back ?_)
    refine RC.cond_dec rfl (fun h3 => ?_) (fun h3 => ?_)
    ·
      have hlt : i < 25 := (by omega)
      refine RC.region rfl ?_
      refine RL.ev (.move rfl) rfl rfl ?_
      refine RL.ev (.move rfl) rfl rfl ?_
      refine RL.ev (.rem rfl rfl (by decide)) rfl rfl ?_
      refine RL.ev (.as (.bin rfl rfl rfl) (wi64 (y := x.tmod 60 + 60) (by rfl) (by omega))) rfl rfl ?_
      refine RL.ev (.as (v' := .int .i64 (x % 60)) (.rem rfl rfl (by decide)) (by rw [nmx.2.2])) rfl rfl ?_
      refine RL.ev (.move rfl) rfl rfl ?_
      refine RL.ev (.as (.bin rfl rfl rfl) (wi64 (y := ((i : Int) + 1)) (by rfl) (by omega))) rfl rfl ?_
      refine RL.call rfl ok27 (c_refPut (rowN mod60 suc1 25 l i) ra rc rm hm (x % 60) ((i : Int) + 1) w1 (hr) (by omega)) rfl rfl ?_
      rintro vr w4 ⟨a1, c1, hvr, o1, s5⟩
      have S := S.trans s5
      rw [← show rowN mod60 suc1 25 l (i + 1) = putR (rowN mod60 suc1 25 l i) (x % 60) ((i : Int) + 1) from rowN_put hx hlt] at hvr o1
      subst hvr
      have hc1 : (rowN mod60 suc1 25 l (i + 1)).length ≤ c1 := (by obtain ⟨_, c', e, h⟩ := o1.form; cases e; rw [List.length_map] at h; exact h)
      refine RL.ev (.assign rfl) rfl rfl ?_
      refine RL.nil (RC.back ?_)
      refine RC.region rfl ?_
      refine RL.ev (.as (.bin rfl rfl rfl) (wi64 (y := ((i + 1 : Nat) : Int)) (by omega) (by omega))) rfl rfl ?_
      refine RL.ev (.move rfl) rfl rfl ?_
      exact RL.nil (fun a ka => ⟨(i + 1, a1, _, c1), ⟨⟨by omega, List.length_map _, hc1⟩, o1.sl.1, S⟩, by omega, ka.keep (keep_of (by repeat (first | exact trivial | refine And.intro rfl ?_)))⟩)
    ·
      have hge : ¬ i < 25 := (by omega)
      rw [← rowN_stay hge] at hm hc hr
      refine RC.skip (RC.back ?_)
      refine RC.region rfl ?_
      refine RL.ev (.as (.bin rfl rfl rfl) (wi64 (y := ((i + 1 : Nat) : Int)) (by omega) (by omega))) rfl rfl ?_
      refine RL.ev (.move rfl) rfl rfl ?_
      exact RL.nil (fun a ka => ⟨(i + 1, ra, rm, rc), ⟨⟨by omega, hm, hc⟩, hr, S⟩, by omega, ka.keep (keep_of (by repeat (first | exact trivial | refine And.intro rfl ?_)))⟩)
  ·
    obtain rfl : i = l.length := (by omega)
    have hRs := rowN_srt mod60 suc1 25 l l.length
    have hRok := rowN_all (f := mod60) (g := suc1) (most := 25) (l := l) (P := It.ok) (fun x hx i hi => ⟨by unfold I64; show _ ≤ x % 60 ∧ x % 60 ≤ _; omega, by unfold I64; show _ ≤ (i : Int) + 1 ∧ (i : Int) + 1 ≤ _; omega⟩) l.length (Nat.le_refl _)
    have hR60 := rowN_all (f := mod60) (g := suc1) (most := 25) (l := l) (P := fun z => 0 ≤ z.k ∧ z.k < 60) (fun x hx i hi => by show 0 ≤ x % 60 ∧ x % 60 < 60; omega) l.length (Nat.le_refl _)
    obtain ⟨R, hR⟩ : ∃ R, rowN mod60 suc1 25 l l.length = R := ⟨_, rfl⟩
    rw [hR] at hm hc hr hrl hRs hRok hR60
    have hR25 := hrl.1
    subst hm
    refine RC.exit rfl (RC.back ?_)
    refine RC.seq ?_
    refine RC.region rfl ?_
    refine RL.ev (.as (v' := .slice ra R.length rc) (.move rfl) (by rfl)) rfl rfl ?_
    refine RL.ev (.len sl42 rfl) rfl rfl ?_
    refine RL.ev (.as (.bin rfl rfl rfl) (wi64 (y := ((R.length + 1 : Nat) : Int)) (by omega) (by omega))) rfl rfl ?_
    refine RL.ev (.as (v' := .slice ra R.length rc) (.move rfl) (by rfl)) rfl rfl ?_
    refine RL.call rfl ok28 (c_build (R.length + 1) R ra rc R.length rfl hc hRs hRok (by omega) (by omega) (by omega) w1 hr) rfl rfl ?_
    rintro _ w6 ⟨na1, fa1, nc1, fc1, rfl, hn1, hf1, hi1, s7⟩
    have hA1 := (hi1 (fun _ => False) (fun _ h => h.elim)).now
    have S := S.trans s7
    obtain ⟨A1, hAe1⟩ : ∃ A, buildA (R.length + 1) R = A := ⟨_, rfl⟩
    obtain ⟨r1, hre1⟩ : ∃ r, buildR (R.length + 1) R = r := ⟨_, rfl⟩
    have hB1 := build_ok (size := (R.length + 1)) hRs (by omega) (by omega) (by omega)
    have hM1 := build_map (size := (R.length + 1)) hRs (by omega) (by omega) (by omega) (by omega)
    have hT1 := hB1.isT
    have hU1 := hB1.u
    rw [hAe1, hre1] at hT1 hM1
    rw [hre1] at hU1
    rw [hAe1] at hA1
    rw [hAe1, hre1]
    obtain ⟨W1, S1, hA1, hr⟩ : ∃ W, Sub W w6 ∧ ArR W na1 fa1 A1 ∧ Sl W ra 2 (R.map It.cells) := ⟨_, Sub.refl _, hA1, hr.sub s7⟩
    refine RL.ev (.move rfl) rfl rfl ?_
    refine RL.ev (.extract rfl rfl) rfl rfl ?_
    refine RL.ev (.extract rfl rfl) rfl rfl ?_
    refine RL.alloc ze26 rfl rfl (fun b_6 w_6 e_6 z_6 hb_6 s_6 => ?_)
    have ge_6 := S.le e_6
    have S := S.trans s_6
    have geS1_6 := S1.le e_6
    have S1 := S1.trans s_6
    refine RL.store sh26 rfl rfl rfl hb_6 (by exact Nat.le_of_ble_eq_true rfl) (by rfl) rfl (fun w8 z8 hb_6 a8 => ?_)
    have S := S.upd a8 ge_6
    have S1 := S1.upd a8 geS1_6
    have hb_6 : Has w8 b_6 ([.slice na1 A1.nodes.length nc1, .slice fa1 A1.free.length fc1]) _ := hb_6.now (by kernel_rfl)
    refine RL.ev (.assign rfl) rfl rfl ?_
    refine RL.nil (RC.back ?_)
    refine RC.seq ?_
    refine RC.region rfl ?_
    refine RL.ev (.loadR ([.slice na1 A1.nodes.length nc1, .slice fa1 A1.free.length fc1]) sh26 rfl hb_6.row rfl) rfl rfl ?_
    refine RL.ev (.move rfl) rfl rfl ?_
    refine RL.call rfl ok29 (c_open A1 na1 fa1 nc1 fc1 r1 hU1 0 99 w8 (hA1.sub S1)) rfl rfl ?_
    rintro _ w9 ⟨s10, c1, e1, rfl, _, hc1⟩
    have S := S.trans s10
    have S1 := S1.trans s10
    have hb_6 := hb_6.sub s10
    obtain ⟨rfl, rfl⟩ := hc1 hM1
    refine RL.ev (.move rfl) rfl rfl ?_
    refine RL.ev (.extract rfl rfl) rfl rfl ?_
    refine RL.ev (.extract rfl rfl) rfl rfl ?_
    refine RL.alloc ze97 rfl rfl (fun b_8 w_8 e_8 z_8 hb_8 s_8 => ?_)
    have ge_8 := S.le e_8
    have n_6__8 := hb_6.ne e_8
    have S := S.trans s_8
    have geS1_8 := S1.le e_8
    have S1 := S1.trans s_8
    have hb_6 := hb_6.sub s_8
    refine RL.store sh97 rfl rfl rfl hb_8 (by exact Nat.le_of_ble_eq_true rfl) (by rfl) rfl (fun w11 z11 hb_8 a11 => ?_)
    have S := S.upd a11 ge_8
    have S1 := S1.upd a11 geS1_8
    have hb_6 := hb_6.upd a11 n_6__8
    have hb_8 : Has w11 b_8 ((⟨r1, 0, 99, false⟩ : Cu).cells) _ := hb_8.now (by kernel_rfl)
    refine RL.ev (.assign rfl) rfl rfl ?_
    refine RL.nil (RC.back ?_)
    refine RC.seq ?_
    refine RC.seq ?_
    refine RC.region rfl ?_
    refine RL.ev (.move rfl) rfl rfl ?_
    refine RL.ev (.as (v' := .bool false) (.bin rfl rfl rfl) (congrArg Value.bool (decide_eq_false (fun h => h rfl)))) rfl rfl ?_
    refine RL.ev (.move rfl) rfl rfl ?_
    refine RL.call rfl ok13 (c_alive w11) rfl rfl ?_
    rintro _ w12 ⟨rfl, s13⟩
    have S := S.trans s13
    have S1 := S1.trans s13
    have hb_6 := hb_6.sub s13
    have hb_8 := hb_8.sub s13
    refine RL.ev (.not rfl) rfl rfl ?_
    refine RL.ev (.pick_f rfl rfl) rfl rfl ?_
    refine RL.nil (RC.back ?_)
    refine RC.cond_f rfl ?_
    refine RC.skip (RC.back ?_)
    refine RC.seq ?_
    refine RC.region rfl ?_
    refine RL.ev (.assign rfl) rfl rfl ?_
    refine RL.nil (RC.back ?_)
    refine RC.seq ?_
    refine RC.seq ?_
    refine RC.region rfl ?_
    refine RL.ev (.move rfl) rfl rfl ?_
    refine RL.ev (.len sl42 rfl) rfl rfl ?_
    refine RL.ev (.move rfl) rfl rfl ?_
    refine RL.nil (RC.back ?_)
    refine RC.block ?_
    refine RC.loop (α := Nat) (fun i => [(6, .pointer (some ⟨b_6, 0, none⟩)), (7, .int .u64 r1), (8, .pointer (some ⟨b_8, 0, none⟩)), (10, .int .i64 (loAt R (-5) i)), (61, .slice ra R.length rc), (62, .int .i64 (R.length : Int)), (63, .int .i64 (i : Int))]) (fun i w14 => i ≤ R.length ∧ Has w14 b_6 [.slice na1 A1.nodes.length nc1, .slice fa1 A1.free.length fc1] 26 ∧ Has w14 b_8 (⟨r1, loAt R 0 i, 99, false⟩ : Cu).cells 97 ∧ Sub W1 w14 ∧ Sub w w14) (fun i => R.length - i) 0 (keep_of (by repeat (first | exact trivial | refine And.intro rfl ?_))) (⟨Nat.zero_le _, hb_6, hb_8, S1, S⟩) (fun i w14 hJ => ?_)
    obtain ⟨hi, hb_6, hb_8, S1, S⟩ := hJ
    refine RC.seq ?_
    refine RC.region rfl ?_
    refine RL.ev (.bin rfl rfl rfl) rfl rfl ?_
    refine RL.nil (RC.back ?_)
    refine RC.seq ?_
    refine RC.cond_dec rfl (fun h15 => ?_) (fun h15 => ?_)
    ·
      obtain ⟨y, hy⟩ := getSome (l := R) (i := i) (by omega)
      have hy6 := hR60 y (List.mem_of_getElem? hy)
      have hly := loAt_succ (s := -5) hy
      refine RC.skip (RC.back ?_)
      refine RC.seq ?_
      refine RC.block ?_
      refine RC.seq ?_
      refine RC.region rfl ?_
      refine RL.ev (.move rfl) rfl rfl ?_
      refine RL.ev (.indexS sl42 rfl rfl (by omega) (hr.is (i := 0) (by simp only [List.length_map, List.length_cons, List.length_nil]; omega))) rfl rfl ?_
      refine RL.ev (.loadR (y.cells) sh51 rfl ((hr.sub S1).rowAt (enc := It.cells) (i := i) hy) rfl) rfl rfl ?_
      refine RL.alloc ze51 rfl rfl (fun b_12 w_12 e_12 z_12 hb_12 s_12 => ?_)
      have ge_12 := S.le e_12
      have n_6__12 := hb_6.ne e_12
      have n_8__12 := hb_8.ne e_12
      have S := S.trans s_12
      have geS1_12 := S1.le e_12
      have S1 := S1.trans s_12
      have hb_6 := hb_6.sub s_12
      have hb_8 := hb_8.sub s_12
      refine RL.ev (.assign rfl) rfl rfl ?_
      refine RL.store sh51 rfl rfl rfl hb_12 (by exact Nat.le_of_ble_eq_true rfl) (by rfl) rfl (fun w16 z16 hb_12 a16 => ?_)
      have S := S.upd a16 ge_12
      have S1 := S1.upd a16 geS1_12
      have hb_6 := hb_6.upd a16 n_6__12
      have hb_8 := hb_8.upd a16 n_8__12
      have hb_12 : Has w16 b_12 (y.cells) _ := hb_12.now (by kernel_rfl)
      refine RL.nil (RC.back ?_)
      refine RC.seq ?_
      refine RC.region rfl ?_
      refine RL.ev (.loadR ([.slice na1 A1.nodes.length nc1, .slice fa1 A1.free.length fc1]) sh26 rfl hb_6.row rfl) rfl rfl ?_
      refine RL.ev (.loadR ((⟨r1, loAt R 0 i, 99, false⟩ : Cu).cells) sh97 rfl hb_8.row rfl) rfl rfl ?_
      refine RL.call rfl ok30 (c_step A1 na1 fa1 nc1 fc1 ⟨r1, loAt R 0 i, 99, false⟩ hU1 (loAt_I64 hR60 (by unfold I64; decide) i hi) (by show I64 99; unfold I64; decide) w16 (hA1.sub S1)) rfl rfl ?_
      rintro _ w17 ⟨s18, c2, x2, e2, rfl, _, _, hs2⟩
      have S := S.trans s18
      have S1 := S1.trans s18
      have hb_6 := hb_6.sub s18
      have hb_8 := hb_8.sub s18
      have hb_12 := hb_12.sub s18
      obtain ⟨rfl, hst⟩ := hs2 R hM1 hT1 rfl
      rw [step_at hRs hR60 hy] at hst
      obtain ⟨rfl, hst2⟩ := Prod.mk.inj hst
      obtain rfl : y = x2 := hst2.symm
      refine RL.ev (.move rfl) rfl rfl ?_
      refine RL.ev (.extract rfl rfl) rfl rfl ?_
      refine RL.ev (.extract rfl rfl) rfl rfl ?_
      refine RL.ev (.extract rfl rfl) rfl rfl ?_
      refine RL.alloc ze97 rfl rfl (fun b_13 w_13 e_13 z_13 hb_13 s_13 => ?_)
      have ge_13 := S.le e_13
      have n_6__13 := hb_6.ne e_13
      have n_8__13 := hb_8.ne e_13
      have n_12__13 := hb_12.ne e_13
      have S := S.trans s_13
      have geS1_13 := S1.le e_13
      have S1 := S1.trans s_13
      have hb_6 := hb_6.sub s_13
      have hb_8 := hb_8.sub s_13
      have hb_12 := hb_12.sub s_13
      refine RL.alloc ze51 rfl rfl (fun b_14 w_14 e_14 z_14 hb_14 s_14 => ?_)
      have ge_14 := S.le e_14
      have n_6__14 := hb_6.ne e_14
      have n_8__14 := hb_8.ne e_14
      have n_12__14 := hb_12.ne e_14
      have n_13__14 := hb_13.ne e_14
      have S := S.trans s_14
      have geS1_14 := S1.le e_14
      have S1 := S1.trans s_14
      have hb_6 := hb_6.sub s_14
      have hb_8 := hb_8.sub s_14
      have hb_12 := hb_12.sub s_14
      have hb_13 := hb_13.sub s_14
      refine RL.store sh97 rfl rfl rfl hb_13 (by exact Nat.le_of_ble_eq_true rfl) (by rfl) rfl (fun w19 z19 hb_13 a19 => ?_)
      have S := S.upd a19 ge_13
      have S1 := S1.upd a19 geS1_13
      have hb_6 := hb_6.upd a19 n_6__13
      have hb_8 := hb_8.upd a19 n_8__13
      have hb_12 := hb_12.upd a19 n_12__13
      have hb_14 := hb_14.upd a19 n_13__14.symm
      have hb_13 : Has w19 b_13 ((⟨r1, loAt R 0 (i + 1), 99, false⟩ : Cu).cells) _ := hb_13.now (by kernel_rfl)
      refine RL.store sh51 rfl rfl rfl hb_14 (by exact Nat.le_of_ble_eq_true rfl) (by rfl) rfl (fun w20 z20 hb_14 a20 => ?_)
      have S := S.upd a20 ge_14
      have S1 := S1.upd a20 geS1_14
      have hb_6 := hb_6.upd a20 n_6__14
      have hb_8 := hb_8.upd a20 n_8__14
      have hb_12 := hb_12.upd a20 n_12__14
      have hb_13 := hb_13.upd a20 n_13__14
      have hb_14 : Has w20 b_14 (y.cells) _ := hb_14.now (by kernel_rfl)
      refine RL.ev (.assign rfl) rfl rfl ?_
      refine RL.nil (RC.back ?_)
      refine RC.seq ?_
      refine RC.region rfl ?_
      refine RL.ev (.loadR ([.slice na1 A1.nodes.length nc1, .slice fa1 A1.free.length fc1]) sh26 rfl hb_6.row rfl) rfl rfl ?_
      refine RL.ev (.move rfl) rfl rfl ?_
      refine RL.ev (.move rfl) rfl rfl ?_
      refine RL.call rfl ok31 (c_oAt A1 na1 fa1 nc1 fc1 r1 hU1 (i : Int) (by unfold I64; omega) w20 (hA1.sub S1)) rfl rfl ?_
      rintro _ w21 ⟨s22, x3, e3, rfl, _, hx3⟩
      have S := S.trans s22
      have S1 := S1.trans s22
      have hb_6 := hb_6.sub s22
      have hb_8 := hb_8.sub s22
      have hb_12 := hb_12.sub s22
      have hb_13 := hb_13.sub s22
      have hb_14 := hb_14.sub s22
      obtain ⟨hx3a, rfl⟩ := (hx3 R hM1 hT1).1 ⟨by omega, by omega⟩
      rw [Int.toNat_natCast, hy] at hx3a
      obtain rfl := Option.some.inj hx3a
      refine RL.ev (.move rfl) rfl rfl ?_
      refine RL.ev (.extract rfl rfl) rfl rfl ?_
      refine RL.ev (.extract rfl rfl) rfl rfl ?_
      refine RL.alloc ze51 rfl rfl (fun b_16 w_16 e_16 z_16 hb_16 s_16 => ?_)
      have ge_16 := S.le e_16
      have n_6__16 := hb_6.ne e_16
      have n_8__16 := hb_8.ne e_16
      have n_12__16 := hb_12.ne e_16
      have n_13__16 := hb_13.ne e_16
      have n_14__16 := hb_14.ne e_16
      have S := S.trans s_16
      have geS1_16 := S1.le e_16
      have S1 := S1.trans s_16
      have hb_6 := hb_6.sub s_16
      have hb_8 := hb_8.sub s_16
      have hb_12 := hb_12.sub s_16
      have hb_13 := hb_13.sub s_16
      have hb_14 := hb_14.sub s_16
      refine RL.store sh51 rfl rfl rfl hb_16 (by exact Nat.le_of_ble_eq_true rfl) (by rfl) rfl (fun w23 z23 hb_16 a23 => ?_)
      have S := S.upd a23 ge_16
      have S1 := S1.upd a23 geS1_16
      have hb_6 := hb_6.upd a23 n_6__16
      have hb_8 := hb_8.upd a23 n_8__16
      have hb_12 := hb_12.upd a23 n_12__16
      have hb_13 := hb_13.upd a23 n_13__16
      have hb_14 := hb_14.upd a23 n_14__16
      have hb_16 : Has w23 b_16 (y.cells) _ := hb_16.now (by kernel_rfl)
      refine RL.ev (.assign rfl) rfl rfl ?_
      refine RL.nil (RC.back ?_)
      refine RC.seq ?_
      refine RC.region rfl ?_
      refine RL.ev (.loadR ([.slice na1 A1.nodes.length nc1, .slice fa1 A1.free.length fc1]) sh26 rfl hb_6.row rfl) rfl rfl ?_
      refine RL.ev (.move rfl) rfl rfl ?_
      refine RL.ev (.move rfl) rfl rfl ?_
      refine RL.call rfl ok32 (c_oCeil A1 na1 fa1 nc1 fc1 r1 hU1 (loAt R (-5) i) w23 (hA1.sub S1)) rfl rfl ?_
      rintro _ w24 ⟨s25, x4, e4, rfl, _, hx4⟩
      have S := S.trans s25
      have S1 := S1.trans s25
      have hb_6 := hb_6.sub s25
      have hb_8 := hb_8.sub s25
      have hb_12 := hb_12.sub s25
      have hb_13 := hb_13.sub s25
      have hb_14 := hb_14.sub s25
      have hb_16 := hb_16.sub s25
      have hx4 := hx4 R hM1 hT1
      rw [ceil_at hRs (fun x hx => by have := hR60 x hx; omega) hy] at hx4
      obtain ⟨hx4a, rfl⟩ := hx4
      obtain rfl : y = x4 := hx4a.symm
      refine RL.ev (.move rfl) rfl rfl ?_
      refine RL.ev (.extract rfl rfl) rfl rfl ?_
      refine RL.ev (.as (v' := .int .i64 0) (.extract rfl rfl) (by rfl)) rfl rfl ?_
      refine RL.alloc ze51 rfl rfl (fun b_18 w_18 e_18 z_18 hb_18 s_18 => ?_)
      have ge_18 := S.le e_18
      have n_6__18 := hb_6.ne e_18
      have n_8__18 := hb_8.ne e_18
      have n_12__18 := hb_12.ne e_18
      have n_13__18 := hb_13.ne e_18
      have n_14__18 := hb_14.ne e_18
      have n_16__18 := hb_16.ne e_18
      have S := S.trans s_18
      have geS1_18 := S1.le e_18
      have S1 := S1.trans s_18
      have hb_6 := hb_6.sub s_18
      have hb_8 := hb_8.sub s_18
      have hb_12 := hb_12.sub s_18
      have hb_13 := hb_13.sub s_18
      have hb_14 := hb_14.sub s_18
      have hb_16 := hb_16.sub s_18
      refine RL.store sh51 rfl rfl rfl hb_18 (by exact Nat.le_of_ble_eq_true rfl) (by rfl) rfl (fun w26 z26 hb_18 a26 => ?_)
      have S := S.upd a26 ge_18
      have S1 := S1.upd a26 geS1_18
      have hb_6 := hb_6.upd a26 n_6__18
      have hb_8 := hb_8.upd a26 n_8__18
      have hb_12 := hb_12.upd a26 n_12__18
      have hb_13 := hb_13.upd a26 n_13__18
      have hb_14 := hb_14.upd a26 n_14__18
      have hb_16 := hb_16.upd a26 n_16__18
      have hb_18 : Has w26 b_18 (y.cells) _ := hb_18.now (by kernel_rfl)
      refine RL.ev (.assign rfl) rfl rfl ?_
      refine RL.nil (RC.back ?_)
      refine RC.seq ?_
      refine RC.seq ?_
      refine RC.region rfl ?_
      refine RL.ev (.move rfl) rfl rfl ?_
      refine RL.ev (.as (v' := .bool false) (.bin rfl rfl rfl) (congrArg Value.bool (decide_eq_false (fun h => h rfl)))) rfl rfl ?_
      refine RL.ev (.move rfl) rfl rfl ?_
      refine RL.ev (.move rfl) rfl rfl ?_
      refine RL.ev (.as (v' := .bool false) (.bin rfl rfl rfl) (congrArg Value.bool (decide_eq_false (fun h => h rfl)))) rfl rfl ?_
      refine RL.ev (.pick_f rfl rfl) rfl rfl ?_
      refine RL.ev (.move rfl) rfl rfl ?_
      refine RL.ev (.move rfl) rfl rfl ?_
      refine RL.ev (.as (v' := .bool false) (.bin rfl rfl rfl) (congrArg Value.bool (decide_eq_false (fun h => h rfl)))) rfl rfl ?_
      refine RL.ev (.pick_f rfl rfl) rfl rfl ?_
      refine RL.ev (.move rfl) rfl rfl ?_
      refine RL.ev (.loadR (y.cells) sh51 rfl hb_14.row rfl) rfl rfl ?_
      refine RL.ev (.loadR (y.cells) sh51 rfl hb_12.row rfl) rfl rfl ?_
      refine RL.ev (.as (v' := .bool false) (.neS (xs := y.cells) (ys := y.cells) fk51 eg51 sh51 rfl rfl rfl rfl rfl) (congrArg Value.bool (by rw [eqL_it]; rfl))) rfl rfl ?_
      refine RL.ev (.pick_f rfl rfl) rfl rfl ?_
      refine RL.ev (.move rfl) rfl rfl ?_
      refine RL.ev (.loadR (y.cells) sh51 rfl hb_16.row rfl) rfl rfl ?_
      refine RL.ev (.loadR (y.cells) sh51 rfl hb_12.row rfl) rfl rfl ?_
      refine RL.ev (.as (v' := .bool false) (.neS (xs := y.cells) (ys := y.cells) fk51 eg51 sh51 rfl rfl rfl rfl rfl) (congrArg Value.bool (by rw [eqL_it]; rfl))) rfl rfl ?_
      refine RL.ev (.pick_f rfl rfl) rfl rfl ?_
      refine RL.ev (.move rfl) rfl rfl ?_
      refine RL.ev (.loadR (y.cells) sh51 rfl hb_18.row rfl) rfl rfl ?_
      refine RL.ev (.loadR (y.cells) sh51 rfl hb_12.row rfl) rfl rfl ?_
      refine RL.ev (.as (v' := .bool false) (.neS (xs := y.cells) (ys := y.cells) fk51 eg51 sh51 rfl rfl rfl rfl rfl) (congrArg Value.bool (by rw [eqL_it]; rfl))) rfl rfl ?_
      refine RL.ev (.pick_f rfl rfl) rfl rfl ?_
      refine RL.nil (RC.back ?_)
      refine RC.cond_f rfl ?_
      refine RC.skip (RC.back ?_)
      refine RC.drawD (fun k => k = b_8) [4] w26.heap.size 6 rfl rfl mxo (fun w27 s28 => ?_)
      have hNN : ∀ k, ((k = b_8) ∨ w26.heap.size ≤ k) → w.heap.size ≤ k := fun k e => e.elim (fun e => e ▸ ge_8) (fun e => Nat.le_trans S.size e)
      have ent_S := S.size
      have ent_S1 := S1.size
      have hN0 : ∀ k, w26.heap.size ≤ k → w.heap.size ≤ k := fun k e => Nat.le_trans S.size e
      have ltD_b_6 := hb_6.lt
      have ltD_b_8 := hb_8.lt
      have ltD_b_12 := hb_12.lt
      have ltD_b_13 := hb_13.lt
      have ltD_b_14 := hb_14.lt
      have ltD_b_16 := hb_16.lt
      have ltD_b_18 := hb_18.lt
      have szD := Nat.le_refl w26.heap.size
      have S := S.trans s28
      have S1 := S1.trans s28
      have hb_6 := hb_6.sub s28
      have hb_8 := hb_8.sub s28
      have hb_12 := hb_12.sub s28
      have hb_13 := hb_13.sub s28
      have hb_14 := hb_14.sub s28
      have hb_16 := hb_16.sub s28
      have hb_18 := hb_18.sub s28
      have szD := Nat.le_trans szD s28.size
      refine RD.take 0 rfl (by kernel_rfl) (by kernel_rfl) (by kernel_rfl) (fun w' s' => .loadR ((⟨r1, loAt R 0 (i + 1), 99, false⟩ : Cu).cells) sh97 rfl (hb_13.step s' (fun e => e.elim (fun e => n_8__13.symm e) (fun e => Nat.not_le.2 ltD_b_13 e))).row rfl) rfl rfl ?_
      refine RD.take 1 rfl (by kernel_rfl) (by kernel_rfl) (by kernel_rfl) (fun w' s' => .field0 fo51_0 rfl) rfl rfl ?_
      refine RD.take 2 rfl (by kernel_rfl) (by kernel_rfl) (by kernel_rfl) (fun w' s' => .load1 sh2 rfl ((hb_12.step s' (fun e => e.elim (fun e => n_8__12.symm e) (fun e => Nat.not_le.2 ltD_b_12 e))).cell rfl)) rfl rfl ?_
      refine RD.take 3 rfl (by kernel_rfl) (by kernel_rfl) (by kernel_rfl) (fun w' s' => .as (.bin rfl rfl rfl) (wi64 (y := loAt R (-5) (i + 1)) (by omega) (by omega))) rfl rfl ?_
      refine RD.all [4] (by kernel_rfl) rfl (RDs.cons rfl ?_ (RDs.nil))
      refine RL.store sh97 rfl rfl rfl hb_8 (by exact Nat.le_of_ble_eq_true rfl) (by rfl) rfl (fun w29 z29 hb_8 a29 => ?_)
      have S := S.upd a29 ge_8
      have S1 := S1.upd a29 geS1_8
      have hb_6 := hb_6.upd a29 n_6__8
      have hb_12 := hb_12.upd a29 n_8__12.symm
      have hb_13 := hb_13.upd a29 n_8__13.symm
      have hb_14 := hb_14.upd a29 n_8__14.symm
      have hb_16 := hb_16.upd a29 n_8__16.symm
      have hb_18 := hb_18.upd a29 n_8__18.symm
      have szD := Nat.le_trans szD a29.size
      have hb_8 : Has w29 b_8 ((⟨r1, loAt R 0 (i + 1), 99, false⟩ : Cu).cells) _ := hb_8.now (by kernel_rfl)
      refine RD.backW rfl (a29.mono fun k _ e => e ▸ (.inl (rfl))) ?_
      refine RD.take 5 rfl (by kernel_rfl) (by kernel_rfl) (by kernel_rfl) (fun w' s' => .assign rfl) rfl rfl ?_
      refine RD.done (by kernel_rfl) (RC.back ?_)
      refine RC.region rfl ?_
      refine RL.ev (.as (.bin rfl rfl rfl) (wi64 (y := ((i + 1 : Nat) : Int)) (by omega) (by omega))) rfl rfl ?_
      refine RL.ev (.move rfl) rfl rfl ?_
      exact RL.nil (fun a ka => ⟨i + 1, ⟨by omega, hb_6, hb_8, S1, S⟩, by omega, ka.keep (keep_of (by repeat (first | exact trivial | refine And.intro rfl ?_)))⟩)
    ·
      obtain rfl : i = R.length := (by omega)
      refine RC.exit rfl (RC.back ?_)
      refine RC.seq ?_
      refine RC.region rfl ?_
      refine RL.ev (.loadR ([.slice na1 A1.nodes.length nc1, .slice fa1 A1.free.length fc1]) sh26 rfl hb_6.row rfl) rfl rfl ?_
      refine RL.ev (.loadR ((⟨r1, loAt R 0 R.length, 99, false⟩ : Cu).cells) sh97 rfl hb_8.row rfl) rfl rfl ?_
      refine RL.call rfl ok30 (c_step A1 na1 fa1 nc1 fc1 ⟨r1, loAt R 0 R.length, 99, false⟩ hU1 (loAt_I64 hR60 (by unfold I64; decide) R.length (Nat.le_refl _)) (by show I64 99; unfold I64; decide) w14 (hA1.sub S1)) rfl rfl ?_
      rintro _ w30 ⟨s31, c2, x2, e2, rfl, _, _, hs2⟩
      have S := S.trans s31
      have S1 := S1.trans s31
      have hb_6 := hb_6.sub s31
      have hb_8 := hb_8.sub s31
      obtain ⟨rfl, hst⟩ := hs2 R hM1 hT1 rfl
      obtain rfl : x2 = it0 := (by have := congrArg Prod.snd hst; rw [step_end hRs hR60] at this; exact this)
      refine RL.ev (.move rfl) rfl rfl ?_
      refine RL.ev (.extract rfl rfl) rfl rfl ?_
      refine RL.ev (.extract rfl rfl) rfl rfl ?_
      refine RL.ev (.as (v' := .int .i64 0) (.extract rfl rfl) (by rfl)) rfl rfl ?_
      refine RL.alloc ze97 rfl rfl (fun b_20 w_20 e_20 z_20 hb_20 s_20 => ?_)
      have ge_20 := S.le e_20
      have n_6__20 := hb_6.ne e_20
      have n_8__20 := hb_8.ne e_20
      have S := S.trans s_20
      have geS1_20 := S1.le e_20
      have S1 := S1.trans s_20
      have hb_6 := hb_6.sub s_20
      have hb_8 := hb_8.sub s_20
      refine RL.alloc ze51 rfl rfl (fun b_21 w_21 e_21 z_21 hb_21 s_21 => ?_)
      have ge_21 := S.le e_21
      have n_6__21 := hb_6.ne e_21
      have n_8__21 := hb_8.ne e_21
      have n_20__21 := hb_20.ne e_21
      have S := S.trans s_21
      have geS1_21 := S1.le e_21
      have S1 := S1.trans s_21
      have hb_6 := hb_6.sub s_21
      have hb_8 := hb_8.sub s_21
      have hb_20 := hb_20.sub s_21
      refine RL.store sh97 rfl rfl rfl hb_20 (by exact Nat.le_of_ble_eq_true rfl) (by rfl) rfl (fun w32 z32 hb_20 a32 => ?_)
      have S := S.upd a32 ge_20
      have S1 := S1.upd a32 geS1_20
      have hb_6 := hb_6.upd a32 n_6__20
      have hb_8 := hb_8.upd a32 n_8__20
      have hb_21 := hb_21.upd a32 n_20__21.symm
      have hb_20 : Has w32 b_20 (c2.cells) _ := hb_20.now (by kernel_rfl)
      refine RL.store sh51 rfl rfl rfl hb_21 (by exact Nat.le_of_ble_eq_true rfl) (by rfl) rfl (fun w33 z33 hb_21 a33 => ?_)
      have S := S.upd a33 ge_21
      have S1 := S1.upd a33 geS1_21
      have hb_6 := hb_6.upd a33 n_6__21
      have hb_8 := hb_8.upd a33 n_8__21
      have hb_20 := hb_20.upd a33 n_20__21
      have hb_21 : Has w33 b_21 (it0.cells) _ := hb_21.now (by kernel_rfl)
      refine RL.ev (.assign rfl) rfl rfl ?_
      refine RL.nil (RC.back ?_)
      refine RC.seq ?_
      refine RC.region rfl ?_
      refine RL.ev (.move rfl) rfl rfl ?_
      refine RL.ev (.as (v' := .bool true) (.bin rfl rfl rfl) (congrArg Value.bool (decide_eq_true (rfl)))) rfl rfl ?_
      refine RL.ev (.move rfl) rfl rfl ?_
      refine RL.ev (.loadR (it0.cells) sh51 rfl hb_21.row rfl) rfl rfl ?_
      refine RL.ev (.as (v' := it0.val) (.buildS ze51 pl51 rfl rfl) (by rfl)) rfl rfl ?_
      refine RL.ev (.as (v' := .bool true) (.eqS (xs := it0.cells) (ys := it0.cells) fk51 eg51 sh51 rfl rfl rfl rfl rfl) (congrArg Value.bool (eqL_it it0))) rfl rfl ?_
      refine RL.ev (.pick_t rfl rfl) rfl rfl ?_
      refine RL.ev (.assign rfl) rfl rfl ?_
      refine RL.nil (RC.back ?_)
      refine RC.done (rs := [.tmp 2]) (vs := [_]) rfl rfl ⟨rfl, trivial⟩ ?_
      -- end 1
      exact ⟨rfl, S⟩
end Go.Proofs.YtbjmllnddanniaaGreat
