/-
  treap.Del, Split, Join, Get, walked.
-/
import Derived.Test.YtekdjjppdijkmaaTreapMk
set_option linter.unusedVariables false
set_option linter.unusedSimpArgs false
namespace Go.Proofs.Ytekdjjppdijkmaa
open Go Go.XL

theorem mapL {A : Ar} {r : Int} (h : isMap A r) : ∃ L, IsT A r L ∧ L.length ≤ 200 := by
  obtain ⟨_, L, h1, h2⟩ := h
  exact ⟨L, h1, h2⟩
theorem mapsL (A : Ar) (r : Int) : ∃ L, isMap A r → IsT A r L := by
  by_cases h : isMap A r
  · obtain ⟨_, L, hL, _⟩ := id h; exact ⟨L, fun _ => hL⟩
  · exact ⟨[], fun h' => absurd h' h⟩
theorem maps_1 {A : Ar} {r : Int} (h : allMaps A [r] = true) : isMap A r := (isMapB_iff A r).1 (by rw [← allMaps_1]; exact h)
/-! ### Del -/
def DelJ (A : Ar) (L : List It) (key : Int) (s' : St) (r' e : Int) : Prop := ((∀ x ∈ L, ¬ x.k = key) ∧ e = 3) ∨ ((∃ x ∈ L, x.k = key) ∧ e = 0 ∧ Gs (L.length - 1) (A, 0) s' ∧ (s'.2 = 0 → IsT s'.1 r' (delL L key)))
theorem c_del1 (A : Ar) (r key : Int) (hr : U64 r) (hkey : I64 key) (L : List It) (hA : AOk A) (hL : IsT A r L) (hl : L.length ≤ 200) (bf b4 b5 : Nat) (C : Nat → Prop) (w : World) (hF : Ft C (Fo bf (A, 0) C) w)
    (m4 : Has w b4 [.int .u64 r] 30) (m5 : Has w b5 [.int .i64 key] 2) :
    FC Try.prog 55 [.pointer (some ⟨bf, 0, none⟩), .pointer (some ⟨b4, 0, none⟩), .pointer (some ⟨b5, 0, none⟩)] w (fun u w2 => ∃ s' r' e C', u = .tuple #[.int .u64 r', .int .i64 e] ∧ U64 r' ∧ Ft C' (Fo bf s' C') w2 ∧ Agr (· = bf) w w2 ∧ Up C w C' ∧ DelJ A L key s' r' e) := by
  refine FC.intro Try.func55 rfl Try.ntmps55 rfl ?_
  have G : Agr (· = bf) w w := Agr.refl _ _
  refine RC.seq ?_
  refine RC.region rfl ?_
  refine RL.ev (.assign rfl) rfl rfl ?_
  refine RL.ev (.assign rfl) rfl rfl ?_
  refine RL.nil (RC.back ?_)
  refine RC.seq ?_
  refine RC.seq ?_
  refine RC.region rfl ?_
  refine RL.ev (.move rfl) rfl rfl ?_
  refine RL.ev (.load1 sh30 rfl (m4.cell rfl)) rfl rfl ?_
  refine RL.ev (.load1 sh2 rfl (m5.cell rfl)) rfl rfl ?_
  refine RL.call rfl ok51 (c_ffind bf (A, 0) C r key L hL hr w hF) rfl rfl ?_
  rintro _ w1 ⟨s2, hfp⟩
  have G := G.trans s2.agr
  have hF := hF.sub s2
  have m4 := m4.sub s2
  have m5 := m5.sub s2
  obtain ⟨val, fb, rfl, hfb⟩ := find_form hfp
  refine RL.ev (.move rfl) rfl rfl ?_
  refine RL.ev (.extract rfl rfl) rfl rfl ?_
  refine RL.ev (.extract rfl rfl) rfl rfl ?_
  refine RL.ev (.assign rfl) rfl rfl ?_
  refine RL.ev (.assign rfl) rfl rfl ?_
  refine RL.nil (RC.back ?_)
  refine RC.seq ?_
  refine RC.region rfl ?_
  refine RL.ev (.move rfl) rfl rfl ?_
  refine RL.ev (.not rfl) rfl rfl ?_
  refine RL.nil (RC.back ?_)
  refine RC.cond rfl (fun h3 => ?_) (fun h3 => ?_)
  ·
    have q3 : ∀ x ∈ L, ¬ x.k = key := (hfb.resolve_left (fun h => by have := h3; rw [h.1] at this; cases this)).2.2
    refine RC.seq ?_
    refine RC.region rfl ?_
    refine RL.ev (.assign rfl) rfl rfl ?_
    refine RL.ev (.assign rfl) rfl rfl ?_
    refine RL.nil (RC.back ?_)
    refine RC.done (rs := [.tmp 4, .tmp 5]) (vs := [_, _]) rfl rfl ⟨rfl, rfl, trivial⟩ ?_
    -- end 1
    exact ⟨(A, 0), 0, 3, C, rfl, u0, hF, G, Up.refl _ _, .inl ⟨q3, rfl⟩⟩
  ·
    have q3 : ∃ x ∈ L, x.k = key := (hfb.resolve_right (fun h => by have := h3; rw [h.1] at this; cases this)).2.imp fun x h => ⟨h.1, h.2.1⟩
    refine RC.skip (RC.back ?_)
    refine RC.seq ?_
    refine RC.region rfl ?_
    refine RL.ev (.move rfl) rfl rfl ?_
    refine RL.ev (.load1 sh30 rfl (m4.cell rfl)) rfl rfl ?_
    refine RL.ev (.load1 sh2 rfl (m5.cell rfl)) rfl rfl ?_
    refine RL.call rfl ok56 (c_fdel bf key hkey A r L hL (A, 0) C w1 (Ext.refl _) hA hr (by omega) q3 hF) rfl rfl ?_
    rintro _ w4 ⟨s1, C1, hg, ⟨r1, rfl, hu1, hi⟩, hF1, ag, up⟩
    have up := up.le G.size
    have G := G.trans ag
    refine RL.ev (.assign rfl) rfl rfl ?_
    refine RL.ev (.assign rfl) rfl rfl ?_
    refine RL.nil (RC.back ?_)
    refine RC.done (rs := [.tmp 4, .tmp 5]) (vs := [_, _]) rfl rfl ⟨rfl, rfl, trivial⟩ ?_
    -- end 2
    exact ⟨s1, r1, 0, C1, rfl, hu1, hF1, G, up, .inr ⟨q3, rfl, hg, hi⟩⟩
def DelP (A : Ar) (r key : Int) (B : Ar) (r' e : Int) : Prop :=
  (¬ isMap A r → e = 1) ∧ (¬ e = 0 → B = ar0 ∧ r' = 0) ∧ ∀ L, isMap A r → IsT A r L → ((∀ x ∈ L, ¬ x.k = key) ∧ e = 3) ∨ ((∃ x ∈ L, x.k = key) ∧ e = 2 ∧ A.free.length < L.length - 1) ∨ ((∃ x ∈ L, x.k = key) ∧ e = 0 ∧ Ext A B ∧ AOk B ∧ A.free.length ≤ B.free.length + (L.length - 1) ∧ IsT B r' (delL L key))
theorem del_form {A B : Ar} {r key r' e : Int} {w w' : World} {L : List It} (hm : isMap A r → IsT A r L) (h : CallP A [r] (fun s' r' e _ => DelJ A L key s' r' e) (fun _ => False) w w' B r' e) : DelP A r key B r' e := by
  rcases h with ⟨h1, h2, h3, h4, _⟩ | ⟨h1, s', r0, e0, hJ, he, h3, h4⟩
  · rw [allMaps_1] at h1
    refine ⟨fun _ => h2, fun _ => ⟨h3, h4⟩, fun L' h => ?_⟩
    rw [isMapB_yes h] at h1; cases h1
  · have hmap := maps_1 h1
    refine ⟨fun h => absurd hmap h, h3, fun L' _ hL' => ?_⟩
    obtain rfl := hL'.unique (hm hmap)
    rcases hJ.now with ⟨hb, h5⟩ | ⟨hb, h5, hg, hi⟩
    · exact .inl ⟨hb, by rw [he, h5]; rfl⟩
    · rw [h5, if_pos rfl] at he
      by_cases h0 : s'.2 = 0
      · obtain ⟨rfl, rfl⟩ := h4 (by rw [he, h0])
        exact .inr (.inr ⟨hb, by rw [he, h0], hg.ext, hg.ok, hg.free, hi h0⟩)
      · have := hg.full rfl h0
        exact .inr (.inl ⟨hb, by rw [he, this.1], this.2⟩)
theorem c_tdel (A : Ar) (na fa : Option Addr) (nc fc : Nat) (hnc : A.nodes.length ≤ nc) (hfc : A.free.length ≤ fc) (r key : Int) (hr : U64 r) (hkey : I64 key) (M : Nat → Prop) (w : World) (hA : Ft M (fun u => ArR u na fa A) w) :
    FC Try.prog 30 [arV na fa nc fc A, .int .u64 r, .int .i64 key] w (fun u w' => Sub w w' ∧ ArP M w w' (DelP A r key) u) := by
  obtain ⟨L, hm⟩ := mapsL A r
  refine FC.intro Try.func30 rfl Try.ntmps30 rfl ?_
  have S := Sub.refl w
  refine RC.seq ?_
  refine RC.region rfl ?_
  refine RL.box rfl rfl rfl (fun b_3 w_3 e_3 z_3 hb_3 s_3 => ?_)
  have ge_3 := S.le e_3
  have d_hA_b_3 := hA.neNew e_3
  have S := S.trans s_3
  have hA := hA.sub s_3
  have hb_3 : Has w_3 b_3 ([.slice na A.nodes.length nc, .slice fa A.free.length fc]) _ := hb_3
  refine RL.box rfl rfl rfl (fun b_4 w_4 e_4 z_4 hb_4 s_4 => ?_)
  have ge_4 := S.le e_4
  have n_3__4 := hb_3.ne e_4
  have d_hA_b_4 := hA.neNew e_4
  have S := S.trans s_4
  have hA := hA.sub s_4
  have hb_3 := hb_3.sub s_4
  refine RL.box rfl rfl rfl (fun b_5 w_5 e_5 z_5 hb_5 s_5 => ?_)
  have ge_5 := S.le e_5
  have n_3__5 := hb_3.ne e_5
  have n_4__5 := hb_4.ne e_5
  have d_hA_b_5 := hA.neNew e_5
  have S := S.trans s_5
  have hA := hA.sub s_5
  have hb_3 := hb_3.sub s_5
  have hb_4 := hb_4.sub s_5
  refine RL.alloc ze28 rfl rfl (fun b_6 w_6 e_6 z_6 hb_6 s_6 => ?_)
  have ge_6 := S.le e_6
  have n_3__6 := hb_3.ne e_6
  have n_4__6 := hb_4.ne e_6
  have n_5__6 := hb_5.ne e_6
  have d_hA_b_6 := hA.neNew e_6
  have S := S.trans s_6
  have hA := hA.sub s_6
  have hb_3 := hb_3.sub s_6
  have hb_4 := hb_4.sub s_6
  have hb_5 := hb_5.sub s_6
  refine RL.ev (.assign rfl) rfl rfl ?_
  refine RL.ev (.assign rfl) rfl rfl ?_
  refine RL.nil (RC.back ?_)
  refine RC.seq ?_
  refine RC.region rfl ?_
  refine RL.ev (.loadR ([.slice na A.nodes.length nc, .slice fa A.free.length fc]) sh28 rfl hb_3.row rfl) rfl rfl ?_
  refine RL.ev (.load1 sh30 rfl (hb_4.cell rfl)) rfl rfl ?_
  refine RL.buildSlice1 sl60 _ ze30 rfl rfl rfl rfl rfl rfl rfl (fun b_11 w_11 e_11 z_11 hb_11 s_11 => ?_)
  have ge_11 := S.le e_11
  have n_3__11 := hb_3.ne e_11
  have n_4__11 := hb_4.ne e_11
  have n_5__11 := hb_5.ne e_11
  have n_6__11 := hb_6.ne e_11
  have d_hA_b_11 := hA.neNew e_11
  have S := S.trans s_11
  have hA := hA.sub s_11
  have hb_3 := hb_3.sub s_11
  have hb_4 := hb_4.sub s_11
  have hb_5 := hb_5.sub s_11
  have hb_6 := hb_6.sub s_11
  refine RL.ev (.func (xs := []) (ys := [_, _]) rfl rfl) rfl rfl ?_
  refine RL.call rfl ok49 (c_tcall 55 ok55 [.pointer (some ⟨b_4, 0, none⟩), .pointer (some ⟨b_5, 0, none⟩)] A na fa nc fc hnc hfc [r] (some ⟨b_11, 0, none⟩) 1 1 rfl (Nat.le_of_ble_eq_true rfl) (fun x hx => by rw [List.mem_singleton] at hx; rw [hx]; exact hr) (fun _ => False) M (fun s' r' e _ => DelJ A L key s' r' e) w_11 hA (Has.sl1 (enc := u6) (l := [r]) hb_11) (fun _ h => h.elim) (fun hyes bf C w1 s1 hbf hF _ => FC.mono (c_del1 A r key hr hkey L (maps_1 hyes).1 (hm (maps_1 hyes)) (isMap_len (maps_1 hyes) (hm (maps_1 hyes))) bf b_4 b_5 C w1 hF (hb_4.sub s1) (hb_5.sub s1)) (fun u w2 ⟨s', r', e, C', h1, h2, h3, h4, h5, h6⟩ => ⟨s', r', e, C', h1, h2, h3, h4.mono fun k _ e => .inl e, h5, Ft.pure h6⟩))) rfl rfl ?_
  rintro _ w1 ⟨ag, na', fa', nc', fc', B, r', e, M', rfl, hu, hnc', hfc', hA', hup, hcp⟩
  have dB6 : ∀ k, M' k → k ≠ b_6 := (fun k hk e => hup.not hb_6.lt (fun e' => d_hA_b_6 _ e' rfl) (e ▸ hk))
  have hup := hup.le S.size
  have S := S.trans ag.sub
  have hA := hA.sub ag.sub
  have hb_3 := hb_3.sub ag.sub
  have hb_4 := hb_4.sub ag.sub
  have hb_5 := hb_5.sub ag.sub
  have hb_6 := hb_6.sub ag.sub
  have hb_11 := hb_11.sub ag.sub
  have hpp := del_form hm hcp
  refine RL.ev (.extract rfl rfl) rfl rfl ?_
  refine RL.ev (.extract rfl rfl) rfl rfl ?_
  refine RL.ev (.extract rfl rfl) rfl rfl ?_
  refine RL.store sh28 rfl rfl rfl hb_6 (by exact Nat.le_of_ble_eq_true rfl) (by rfl) rfl (fun w3 z3 hb_6 a3 => ?_)
  have S := S.upd a3 ge_6
  have hb_3 := hb_3.upd a3 n_3__6
  have hb_4 := hb_4.upd a3 n_4__6
  have hb_5 := hb_5.upd a3 n_5__6
  have hb_11 := hb_11.upd a3 n_6__11.symm
  have hA' := hA'.updD a3 dB6
  have hb_6 : Has w3 b_6 ([.slice na' B.nodes.length nc', .slice fa' B.free.length fc']) _ := hb_6.now (by kernel_rfl)
  refine RL.ev (.assign rfl) rfl rfl ?_
  refine RL.ev (.assign rfl) rfl rfl ?_
  refine RL.nil (RC.back ?_)
  refine RC.done (rs := [.cell 6 28, .tmp 7, .tmp 8]) (vs := [_, _, _]) rfl rfl ⟨⟨_, rfl, .inr ⟨[.slice na' B.nodes.length nc', .slice fa' B.free.length fc'], sh28, hb_6.row, rfl⟩⟩, rfl, rfl, trivial⟩ ?_
  -- end 1
  exact ⟨S, na', fa', nc', fc', B, r', e, M', rfl, hu, hnc', hfc', hA', hup, hpp⟩
/-! ### Get -/
theorem c_tget (A : Ar) (na fa : Option Addr) (nc fc : Nat) (hnc : A.nodes.length ≤ nc) (hfc : A.free.length ≤ fc) (r key : Int) (hr : U64 r) (M : Nat → Prop) (w : World) (hA : Ft M (fun u => ArR u na fa A) w) :
    FC Try.prog 36 [arV na fa nc fc A, .int .u64 r, .int .i64 key] w (fun u w' => Sub w w' ∧ ∃ v e, u = .tuple #[.int .i64 v, .int .i64 e] ∧ (¬ isMap A r → v = 0 ∧ e = 1) ∧ ∀ L, isMap A r → IsT A r L → ((∀ x ∈ L, ¬ x.k = key) ∧ v = 0 ∧ e = 3) ∨ (∃ x ∈ L, x.k = key ∧ x.v = v) ∧ e = 0) := by
  obtain ⟨L, hm⟩ := mapsL A r
  refine FC.intro Try.func36 rfl Try.ntmps36 rfl ?_
  have S := Sub.refl w
  refine RC.seq ?_
  refine RC.region rfl ?_
  refine RL.box rfl rfl rfl (fun b_3 w_3 e_3 z_3 hb_3 s_3 => ?_)
  have ge_3 := S.le e_3
  have d_hA_b_3 := hA.neNew e_3
  have S := S.trans s_3
  have hA := hA.sub s_3
  have hb_3 : Has w_3 b_3 ([.slice na A.nodes.length nc, .slice fa A.free.length fc]) _ := hb_3
  refine RL.ev (.assign rfl) rfl rfl ?_
  refine RL.ev (.assign rfl) rfl rfl ?_
  refine RL.nil (RC.back ?_)
  refine RC.seq ?_
  refine RC.seq ?_
  refine RC.region rfl ?_
  refine RL.ev (.loadR ([.slice na A.nodes.length nc, .slice fa A.free.length fc]) sh28 rfl hb_3.row rfl) rfl rfl ?_
  refine RL.ev (.move rfl) rfl rfl ?_
  refine RL.call rfl ok37 (c_tRight A na fa nc fc r hr w_3 hA.now) rfl rfl ?_
  rintro _ w1 ⟨rfl, s2⟩
  have S := S.trans s2
  have hA := hA.sub s2
  have hb_3 := hb_3.sub s2
  refine RL.ev (.not rfl) rfl rfl ?_
  refine RL.nil (RC.back ?_)
  refine RC.cond rfl (fun h3 => ?_) (fun h3 => ?_)
  ·
    have hno : ¬ isMap A r := (fun h => by have h2 := h3; rw [isMapB_yes h] at h2; cases h2)
    refine RC.seq ?_
    refine RC.region rfl ?_
    refine RL.ev (.assign rfl) rfl rfl ?_
    refine RL.ev (.assign rfl) rfl rfl ?_
    refine RL.nil (RC.back ?_)
    refine RC.done (rs := [.tmp 6, .tmp 7]) (vs := [_, _]) rfl rfl ⟨rfl, rfl, trivial⟩ ?_
    -- end 1
    exact ⟨S, 0, 1, rfl, fun _ => ⟨rfl, rfl⟩, fun L h => absurd h hno⟩
  ·
    have hmap : isMap A r := (isMapB_iff A r).1 (by simpa using h3)
    have hL := hm hmap
    refine RC.skip (RC.back ?_)
    refine RC.seq ?_
    refine RC.region rfl ?_
    refine RL.ev (.loadR ([.slice na A.nodes.length nc, .slice fa A.free.length fc]) sh28 rfl hb_3.row rfl) rfl rfl ?_
    refine RL.ev (.buildS ze99 pl99 rfl rfl) rfl rfl ?_
    refine RL.box rfl rfl rfl (fun b_17 w_17 e_17 z_17 hb_17 s_17 => ?_)
    have ge_17 := S.le e_17
    have n_3__17 := hb_3.ne e_17
    have d_hA_b_17 := hA.neNew e_17
    have S := S.trans s_17
    have hA := hA.sub s_17
    have hb_3 := hb_3.sub s_17
    have hb_17 : Has w_17 b_17 (frC na fa nc fc A 0) 99 := hb_17
    have hF := Fo.ft (s := (A, 0)) hb_17 hnc hfc hA (fun e => d_hA_b_17 _ e rfl)
    refine RL.ev (.assign rfl) rfl rfl ?_
    refine RL.nil (RC.back ?_)
    refine RC.seq ?_
    refine RC.region rfl ?_
    refine RL.ev (.move rfl) rfl rfl ?_
    refine RL.ev (.move rfl) rfl rfl ?_
    refine RL.ev (.move rfl) rfl rfl ?_
    refine RL.call rfl ok51 (c_ffind b_17 (A, 0) _ r key L hL hr w_17 hF) rfl rfl ?_
    rintro _ w4 ⟨s5, hfp⟩
    have S := S.trans s5
    have hA := hA.sub s5
    have hb_3 := hb_3.sub s5
    have hb_17 := hb_17.sub s5
    obtain ⟨val, fb, rfl, hfb⟩ := find_form hfp
    refine RL.ev (.move rfl) rfl rfl ?_
    refine RL.ev (.extract rfl rfl) rfl rfl ?_
    refine RL.ev (.extract rfl rfl) rfl rfl ?_
    refine RL.ev (.assign rfl) rfl rfl ?_
    refine RL.ev (.assign rfl) rfl rfl ?_
    refine RL.nil (RC.back ?_)
    refine RC.seq ?_
    refine RC.seq ?_
    refine RC.region rfl ?_
    refine RL.ev (.move rfl) rfl rfl ?_
    refine RL.ev (.not rfl) rfl rfl ?_
    refine RL.nil (RC.back ?_)
    refine RC.cond rfl (fun h6 => ?_) (fun h6 => ?_)
    ·
      have q3 := (hfb.resolve_left (fun h => by have := h6; rw [h.1] at this; cases this)).2
      refine RC.seq ?_
      refine RC.region rfl ?_
      refine RL.ev (.assign rfl) rfl rfl ?_
      refine RL.ev (.assign rfl) rfl rfl ?_
      refine RL.nil (RC.back ?_)
      refine RC.done (rs := [.tmp 6, .tmp 7]) (vs := [_, _]) rfl rfl ⟨rfl, rfl, trivial⟩ ?_
      -- end 2
      exact ⟨S, 0, 3, rfl, fun h => absurd hmap h, fun L' _ hL' => .inl ⟨by rw [hL'.unique hL]; exact q3.2, rfl, rfl⟩⟩
    ·
      have q3 := (hfb.resolve_right (fun h => by have := h6; rw [h.1] at this; cases this)).2
      refine RC.skip (RC.back ?_)
      refine RC.seq ?_
      refine RC.region rfl ?_
      refine RL.ev (.move rfl) rfl rfl ?_
      refine RL.ev (.assign rfl) rfl rfl ?_
      refine RL.ev (.assign rfl) rfl rfl ?_
      refine RL.nil (RC.back ?_)
      refine RC.done (rs := [.tmp 6, .tmp 7]) (vs := [_, _]) rfl rfl ⟨rfl, rfl, trivial⟩ ?_
      -- end 3
      exact ⟨S, val, 0, rfl, fun h => absurd hmap h, fun L' _ hL' => .inr ⟨by rw [hL'.unique hL]; exact q3, rfl⟩⟩
/-! ### Split -/
def SplitJ (A : Ar) (L : List It) (key : Int) (b10 : Nat) (s' : St) (r' e : Int) (u : World) : Prop := e = 0 ∧ ∃ r2, Has u b10 [.int .u64 r2] 30 ∧ U64 r2 ∧ Gs L.length (A, 0) s' ∧ (s'.2 = 0 → IsT s'.1 r' (ltL key L) ∧ IsT s'.1 r2 (geL key L))
theorem c_split1 (A : Ar) (r key : Int) (hr : U64 r) (hkey : I64 key) (L : List It) (hA : AOk A) (hL : IsT A r L) (hl : L.length ≤ 200) (bf b4 b5 b10 : Nat) (C : Nat → Prop) (w : World) (hF : Ft C (Fo bf (A, 0) C) w)
    (m4 : Has w b4 [.int .u64 r] 30) (m5 : Has w b5 [.int .i64 key] 2) (m10 : Has w b10 [.int .u64 0] 30) (hn : ¬ C b10) (hf : b10 ≠ bf) :
    FC Try.prog 59 [.pointer (some ⟨bf, 0, none⟩), .pointer (some ⟨b4, 0, none⟩), .pointer (some ⟨b5, 0, none⟩), .pointer (some ⟨b10, 0, none⟩)] w (fun u w2 => ∃ s' r' e C', u = .tuple #[.int .u64 r', .int .i64 e] ∧ U64 r' ∧ Ft C' (Fo bf s' C') w2 ∧ Agr (fun k => k = bf ∨ k = b10) w w2 ∧ Up C w C' ∧ Ft (· = b10) (SplitJ A L key b10 s' r' e) w2) := by
  refine FC.intro Try.func59 rfl Try.ntmps59 rfl ?_
  have G : Agr (fun k => k = bf ∨ k = b10) w w := Agr.refl _ _
  refine RC.seq ?_
  refine RC.region rfl ?_
  refine RL.ev (.assign rfl) rfl rfl ?_
  refine RL.ev (.assign rfl) rfl rfl ?_
  refine RL.nil (RC.back ?_)
  refine RC.seq ?_
  refine RC.region rfl ?_
  refine RL.ev (.move rfl) rfl rfl ?_
  refine RL.ev (.load1 sh30 rfl (m4.cell rfl)) rfl rfl ?_
  refine RL.ev (.load1 sh2 rfl (m5.cell rfl)) rfl rfl ?_
  refine RL.call rfl ok60 (c_fsplit bf key hkey A r L hL (A, 0) C w (Ext.refl _) hA hr (by omega) hF) rfl rfl ?_
  rintro _ w1 ⟨s1, C1, hg, ⟨r1, r2, rfl, hu1, hu2, hi⟩, hF1, ag, up⟩
  have dF1 : ∀ k, C1 k → k ≠ b10 := fun k hk e => up.not m10.lt hn (e ▸ hk)
  have up := up.le G.size
  have G := G.trans (ag.mono fun k _ e => .inl e)
  have m10 := m10.step ag hf
  refine RL.ev (.move rfl) rfl rfl ?_
  refine RL.ev (.extract rfl rfl) rfl rfl ?_
  refine RL.ev (.extract rfl rfl) rfl rfl ?_
  refine RL.ev (.assign rfl) rfl rfl ?_
  refine RL.ev (.assign rfl) rfl rfl ?_
  refine RL.nil (RC.back ?_)
  refine RC.seq ?_
  refine RC.region rfl ?_
  refine RL.ev (.move rfl) rfl rfl ?_
  refine RL.store sh30 rfl rfl rfl m10 (by exact Nat.le_of_ble_eq_true rfl) (by rfl) rfl (fun w3 z3 m10 a3 => ?_)
  have G := G.trans (a3.mono fun k _ e => .inr (e))
  have hF1 := hF1.updD a3 dF1
  have m10 : Has w3 b10 ([.int .u64 r2]) _ := m10
  refine RL.nil (RC.back ?_)
  refine RC.seq ?_
  refine RC.region rfl ?_
  refine RL.ev (.move rfl) rfl rfl ?_
  refine RL.ev (.assign rfl) rfl rfl ?_
  refine RL.ev (.assign rfl) rfl rfl ?_
  refine RL.nil (RC.back ?_)
  refine RC.done (rs := [.tmp 5, .tmp 6]) (vs := [_, _]) rfl rfl ⟨rfl, rfl, trivial⟩ ?_
  -- end 1
  exact ⟨s1, r1, 0, C1, rfl, hu1, hF1, G, up, ⟨fun k e => e ▸ m10.lt, fun u a => ⟨rfl, r2, m10.step a (fun h => h rfl), hu2, hg, hi⟩⟩⟩
def SplitP (A : Ar) (r key : Int) (M : Nat → Prop) (w w' : World) (u : Value) : Prop :=
  ∃ na fa nc fc B r1 r2 e M', u = .tuple #[arV na fa nc fc B, .int .u64 r1, .int .u64 r2, .int .i64 e] ∧ U64 r1 ∧ U64 r2 ∧ B.nodes.length ≤ nc ∧ B.free.length ≤ fc ∧ Ft M' (fun u => ArR u na fa B) w' ∧ Up M w M' ∧
    (¬ isMap A r → e = 1) ∧ (¬ e = 0 → B = ar0 ∧ r1 = 0 ∧ r2 = 0) ∧ ∀ L, isMap A r → IsT A r L → (e = 2 ∧ A.free.length < L.length) ∨ (e = 0 ∧ Ext A B ∧ AOk B ∧ A.free.length ≤ B.free.length + L.length ∧ IsT B r1 (ltL key L) ∧ IsT B r2 (geL key L))
end Go.Proofs.Ytekdjjppdijkmaa
