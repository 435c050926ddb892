/-
  treap.Join, walked.
-/
import Derived.Test.YtekdjjppdijkmaaTreapMk3
set_option linter.unusedVariables false
set_option linter.unusedSimpArgs false
namespace Go.Proofs.Ytekdjjppdijkmaa
open Go Go.XL

/-- two maps that may not be put together -/
def BadJ (L R : List It) : Prop := 0 < L.length ∧ 0 < R.length ∧ (¬ Lt2 L R ∨ 200 < L.length + R.length)
def JoinJ (A : Ar) (L R : List It) (s' : St) (r' e : Int) : Prop := (BadJ L R ∧ e = 5) ∨ (¬ BadJ L R ∧ e = 0 ∧ Gs (L.length + R.length) (A, 0) s' ∧ (s'.2 = 0 → IsT s'.1 r' (L ++ R)))
theorem isT_len0 {A : Ar} {r : Int} {L : List It} (h : IsT A r L) : (r = 0 → L = []) ∧ (¬ r = 0 → 0 < L.length) := by
  refine ⟨fun e => (e ▸ h).zero, fun e => ?_⟩
  obtain ⟨_, _, _, _, L1, R1, hl, _⟩ := h.ne e
  rw [hl, List.length_append, List.length_cons]; omega
set_option maxHeartbeats 1000000 in
theorem c_join1 (A : Ar) (a b : Int) (ha : U64 a) (hb : U64 b) (L R : List It) (hA : AOk A) (hL : IsT A a L) (hR : IsT A b R) (hl : L.length ≤ 200) (hl2 : R.length ≤ 200) (bf b4 b5 : Nat) (C : Nat → Prop) (w : World) (hF : Ft C (Fo bf (A, 0) C) w)
    (m4 : Has w b4 [.int .u64 a] 30) (m5 : Has w b5 [.int .u64 b] 30) :
    FC Try.prog 61 [.pointer (some ⟨bf, 0, none⟩), .pointer (some ⟨b4, 0, none⟩), .pointer (some ⟨b5, 0, none⟩)] w (fun u w2 => ∃ s' r' e C', u = .tuple #[.int .u64 r', .int .i64 e] ∧ U64 r' ∧ Ft C' (Fo bf s' C') w2 ∧ Agr (· = bf) w w2 ∧ Up C w C' ∧ JoinJ A L R s' r' e) := by
  have eL := isT_len0 hL
  have eR := isT_len0 hR
  have hsz : ∀ x : Int, sizeA A x = (getN A x).s := fun x => (getN_s A x).symm
  have hgood : ¬ (BadJ L R) → Lt2 L R := fun h x hx y hy => Classical.byContradiction fun e => h ⟨List.length_pos_of_mem hx, List.length_pos_of_mem hy, .inl fun h2 => e (h2 x hx y hy)⟩
  refine FC.intro Try.func61 rfl Try.ntmps61 rfl ?_
  have G : Agr (· = bf) w w := Agr.refl _ _
  refine RC.seq ?_
  refine RC.region rfl ?_
  refine RL.ev (.assign rfl) rfl rfl ?_
  refine RL.ev (.assign rfl) rfl rfl ?_
  refine RL.nil (RC.back ?_)
  refine RC.seq ?_
  refine RC.seq ?_
  refine RC.draw rfl mxo (by kernel_rfl) ?_
  refine RQ.ev (.load1 sh30 rfl (m4.cell rfl)) rfl rfl ?_
  refine RQ.ev (.bin rfl rfl rfl) rfl rfl ?_
  refine RQ.ev (.move rfl) rfl rfl ?_
  refine RQ.split 8 rfl (fun h1 => ?_) (fun h1 => ?_)
  ·
    have q1 : ¬ a = 0 := h1
    refine RQ.ev (.load1 sh30 rfl (m5.cell rfl)) rfl rfl ?_
    refine RQ.ev (.bin rfl rfl rfl) rfl rfl ?_
    refine RQ.ev (.pick_t rfl rfl) rfl rfl ?_
    refine RQ.ev (.move rfl) rfl rfl ?_
    refine RQ.split 12 rfl (fun h2 => ?_) (fun h2 => ?_)
    ·
      have q2 : ¬ b = 0 := h2
      have hl0 := eL.2 q1
      have hr0 := eR.2 q2
      have hends := lt2_ends hL.srt hR.srt hl0 hr0
      refine RQ.ev (.move rfl) rfl rfl ?_
      refine RQ.ev (.load1 sh30 rfl (m4.cell rfl)) rfl rfl ?_
      refine RQ.call rfl ok62 (fun w' s' => c_fend1 bf (A, 0) C a L hL ha q1 w' (hF.sub s')) rfl rfl ?_
      refine RQ.ev (.move rfl) rfl rfl ?_
      refine RQ.ev (.load1 sh30 rfl (m5.cell rfl)) rfl rfl ?_
      refine RQ.call rfl ok62 (fun w' s' => c_fend0 bf (A, 0) C b R hR hb q2 w' (hF.sub s')) rfl rfl ?_
      refine RQ.ev (.bin rfl rfl rfl) rfl rfl ?_
      refine RQ.ev (.move rfl) rfl rfl ?_
      refine RQ.split 20 rfl (fun h3 => ?_) (fun h3 => ?_)
      ·
        have q3 := h3
        refine RQ.off rfl rfl ?_
        refine RQ.off rfl rfl ?_
        refine RQ.off rfl rfl ?_
        refine RQ.off rfl rfl ?_
        refine RQ.off rfl rfl ?_
        refine RQ.off rfl rfl ?_
        refine RQ.off rfl rfl ?_
        refine RQ.off rfl rfl ?_
        refine RQ.off rfl rfl ?_
        refine RQ.off rfl rfl ?_
        refine RQ.ev (.pick_t rfl rfl) rfl rfl ?_
        refine RQ.ev (.pick_t rfl rfl) rfl rfl ?_
        refine RQ.nil (fun w4 s5 => RC.back ?_)
        have G := G.trans s5.agr
        have hF := hF.sub s5
        have m4 := m4.sub s5
        have m5 := m5.sub s5
        refine RC.cond_t rfl ?_
        refine RC.seq ?_
        refine RC.region rfl ?_
        refine RL.ev (.assign rfl) rfl rfl ?_
        refine RL.ev (.assign rfl) rfl rfl ?_
        refine RL.nil (RC.back ?_)
        refine RC.done (rs := [.tmp 4, .tmp 5]) (vs := [_, _]) rfl rfl ⟨rfl, rfl, trivial⟩ ?_
        -- end 1
        exact ⟨(A, 0), 0, 5, C, rfl, u0, hF, G, Up.refl _ _, .inl ⟨⟨hl0, hr0, .inl (fun h => by have := hends.1 h; omega)⟩, rfl⟩⟩
      ·
        have q3 := h3
        refine RQ.ev (.move rfl) rfl rfl ?_
        refine RQ.ev (.load1 sh30 rfl (m4.cell rfl)) rfl rfl ?_
        refine RQ.call rfl ok52 (fun w' s' => c_fget bf (A, 0) C a ha w' (hF.sub s')) rfl rfl ?_
        refine RQ.ev (.as (v' := .int .i64 (L.length : Int)) (.fieldV Try.underlying78 rfl sh2 rfl rfl) (by show Value.int .i64 (getN A a).s = _; rw [getN_s, sizeA_isT hL])) rfl rfl ?_
        refine RQ.ev (.move rfl) rfl rfl ?_
        refine RQ.ev (.load1 sh30 rfl (m5.cell rfl)) rfl rfl ?_
        refine RQ.call rfl ok52 (fun w' s' => c_fget bf (A, 0) C b hb w' (hF.sub s')) rfl rfl ?_
        refine RQ.ev (.as (v' := .int .i64 (R.length : Int)) (.fieldV Try.underlying78 rfl sh2 rfl rfl) (by show Value.int .i64 (getN A b).s = _; rw [getN_s, sizeA_isT hR])) rfl rfl ?_
        refine RQ.ev (.as (.bin rfl rfl rfl) (wi64 (y := ((L.length : Int) + R.length)) (by rfl) (by omega))) rfl rfl ?_
        refine RQ.ev (.bin rfl rfl rfl) rfl rfl ?_
        refine RQ.ev (.pick_f rfl rfl) rfl rfl ?_
        refine RQ.ev (.pick_t rfl rfl) rfl rfl ?_
        refine RQ.nil (fun w6 s7 => RC.back ?_)
        have G := G.trans s7.agr
        have hF := hF.sub s7
        have m4 := m4.sub s7
        have m5 := m5.sub s7
        refine RC.cond_dec rfl (fun h8 => ?_) (fun h8 => ?_)
        ·
          have q4 := h8
          refine RC.seq ?_
          refine RC.region rfl ?_
          refine RL.ev (.assign rfl) rfl rfl ?_
          refine RL.ev (.assign rfl) rfl rfl ?_
          refine RL.nil (RC.back ?_)
          refine RC.done (rs := [.tmp 4, .tmp 5]) (vs := [_, _]) rfl rfl ⟨rfl, rfl, trivial⟩ ?_
          -- end 2
          exact ⟨(A, 0), 0, 5, C, rfl, u0, hF, G, Up.refl _ _, .inl ⟨⟨hl0, hr0, .inr (by omega)⟩, rfl⟩⟩
        ·
          have q4 := h8
          have hbad : ¬ BadJ L R := (fun h => h.2.2.elim (fun h => h (hends.2 (by omega))) (fun h => by omega))
          refine RC.skip (RC.back ?_)
          refine RC.seq ?_
          refine RC.region rfl ?_
          refine RL.ev (.move rfl) rfl rfl ?_
          refine RL.ev (.load1 sh30 rfl (m4.cell rfl)) rfl rfl ?_
          refine RL.ev (.load1 sh30 rfl (m5.cell rfl)) rfl rfl ?_
          refine RL.call rfl ok63 (c_fjoin bf A (L.length + R.length) a b L R (A, 0) C w6 (Nat.le_refl _) (by omega) hL hR (hgood hbad) (Ext.refl _) hA ha hb hF) rfl rfl ?_
          rintro _ w9 ⟨s1, C1, hg, ⟨r1, rfl, hu1, hi⟩, hF1, ag, up⟩
          have up := up.le G.size
          have G := G.trans ag
          refine RL.ev (.assign rfl) rfl rfl ?_
          refine RL.ev (.assign rfl) rfl rfl ?_
          refine RL.nil (RC.back ?_)
          refine RC.done (rs := [.tmp 4, .tmp 5]) (vs := [_, _]) rfl rfl ⟨rfl, rfl, trivial⟩ ?_
          -- end 3
          exact ⟨s1, r1, 0, C1, rfl, hu1, hF1, G, up, .inr ⟨hbad, rfl, hg, hi⟩⟩
    ·
      have q2 : b = 0 := Decidable.not_not.1 h2
      have hbad : ¬ BadJ L R := (fun h => by have h2 := h.2.1; rw [eR.1 q2] at h2; exact absurd h2 (by simp))
      refine RQ.off rfl rfl ?_
      refine RQ.off rfl rfl ?_
      refine RQ.off rfl rfl ?_
      refine RQ.off rfl rfl ?_
      refine RQ.off rfl rfl ?_
      refine RQ.off rfl rfl ?_
      refine RQ.off rfl rfl ?_
      refine RQ.off rfl rfl ?_
      refine RQ.off rfl rfl ?_
      refine RQ.off rfl rfl ?_
      refine RQ.off rfl rfl ?_
      refine RQ.off rfl rfl ?_
      refine RQ.off rfl rfl ?_
      refine RQ.off rfl rfl ?_
      refine RQ.off rfl rfl ?_
      refine RQ.off rfl rfl ?_
      refine RQ.off rfl rfl ?_
      refine RQ.off rfl rfl ?_
      refine RQ.off rfl rfl ?_
      refine RQ.ev (.pick_f rfl rfl) rfl rfl ?_
      refine RQ.nil (fun w11 s12 => RC.back ?_)
      have G := G.trans s12.agr
      have hF := hF.sub s12
      have m4 := m4.sub s12
      have m5 := m5.sub s12
      refine RC.cond_f rfl ?_
      refine RC.skip (RC.back ?_)
      refine RC.seq ?_
      refine RC.region rfl ?_
      refine RL.ev (.move rfl) rfl rfl ?_
      refine RL.ev (.load1 sh30 rfl (m4.cell rfl)) rfl rfl ?_
      refine RL.ev (.load1 sh30 rfl (m5.cell rfl)) rfl rfl ?_
      refine RL.call rfl ok63 (c_fjoin bf A (L.length + R.length) a b L R (A, 0) C w11 (Nat.le_refl _) (by omega) hL hR (hgood hbad) (Ext.refl _) hA ha hb hF) rfl rfl ?_
      rintro _ w13 ⟨s1, C1, hg, ⟨r1, rfl, hu1, hi⟩, hF1, ag, up⟩
      have up := up.le G.size
      have G := G.trans ag
      refine RL.ev (.assign rfl) rfl rfl ?_
      refine RL.ev (.assign rfl) rfl rfl ?_
      refine RL.nil (RC.back ?_)
      refine RC.done (rs := [.tmp 4, .tmp 5]) (vs := [_, _]) rfl rfl ⟨rfl, rfl, trivial⟩ ?_
      -- end 4
      exact ⟨s1, r1, 0, C1, rfl, hu1, hF1, G, up, .inr ⟨hbad, rfl, hg, hi⟩⟩
  ·
    have q1 : a = 0 := Decidable.not_not.1 h1
    have hbad : ¬ BadJ L R := (fun h => by have h2 := h.1; rw [eL.1 q1] at h2; exact absurd h2 (by simp))
    refine RQ.off rfl rfl ?_
    refine RQ.off rfl rfl ?_
    refine RQ.ev (.pick_f rfl rfl) rfl rfl ?_
    refine RQ.ev (.move rfl) rfl rfl ?_
    refine RQ.off rfl rfl ?_
    refine RQ.off rfl rfl ?_
    refine RQ.off rfl rfl ?_
    refine RQ.off rfl rfl ?_
    refine RQ.off rfl rfl ?_
    refine RQ.off rfl rfl ?_
    refine RQ.off rfl rfl ?_
    refine RQ.off rfl rfl ?_
    refine RQ.off rfl rfl ?_
    refine RQ.off rfl rfl ?_
    refine RQ.off rfl rfl ?_
    refine RQ.off rfl rfl ?_
    refine RQ.off rfl rfl ?_
    refine RQ.off rfl rfl ?_
    refine RQ.off rfl rfl ?_
    refine RQ.off rfl rfl ?_
    refine RQ.off rfl rfl ?_
    refine RQ.off rfl rfl ?_
    refine RQ.off rfl rfl ?_
    refine RQ.ev (.pick_f rfl rfl) rfl rfl ?_
    refine RQ.nil (fun w15 s16 => RC.back ?_)
    have G := G.trans s16.agr
    have hF := hF.sub s16
    have m4 := m4.sub s16
    have m5 := m5.sub s16
    refine RC.cond_f rfl ?_
    refine RC.skip (RC.back ?_)
    refine RC.seq ?_
    refine RC.region rfl ?_
    refine RL.ev (.move rfl) rfl rfl ?_
    refine RL.ev (.load1 sh30 rfl (m4.cell rfl)) rfl rfl ?_
    refine RL.ev (.load1 sh30 rfl (m5.cell rfl)) rfl rfl ?_
    refine RL.call rfl ok63 (c_fjoin bf A (L.length + R.length) a b L R (A, 0) C w15 (Nat.le_refl _) (by omega) hL hR (hgood hbad) (Ext.refl _) hA ha hb hF) rfl rfl ?_
    rintro _ w17 ⟨s1, C1, hg, ⟨r1, rfl, hu1, hi⟩, hF1, ag, up⟩
    have up := up.le G.size
    have G := G.trans ag
    refine RL.ev (.assign rfl) rfl rfl ?_
    refine RL.ev (.assign rfl) rfl rfl ?_
    refine RL.nil (RC.back ?_)
    refine RC.done (rs := [.tmp 4, .tmp 5]) (vs := [_, _]) rfl rfl ⟨rfl, rfl, trivial⟩ ?_
    -- end 5
    exact ⟨s1, r1, 0, C1, rfl, hu1, hF1, G, up, .inr ⟨hbad, rfl, hg, hi⟩⟩
theorem allMaps_2 {A : Ar} {a b : Int} (h : allMaps A [a, b] = true) : isMap A a ∧ isMap A b := by
  simp only [allMaps, List.all_cons, List.all_nil, Bool.and_true, Bool.and_eq_true] at h
  exact ⟨(isMapB_iff A a).1 h.2.1, (isMapB_iff A b).1 h.2.2⟩
theorem allMaps_2no {A : Ar} {a b : Int} (h : allMaps A [a, b] = false) : ¬ (isMap A a ∧ isMap A b) := fun ⟨h1, h2⟩ => by
  simp only [allMaps, List.all_cons, List.all_nil, Bool.and_true, isMapB_yes h1, isMapB_yes h2, aokB_yes h1.1, Bool.and_self] at h
  cases h
def JoinP (A : Ar) (a b : Int) (B : Ar) (r' e : Int) : Prop :=
  (¬ (isMap A a ∧ isMap A b) → e = 1) ∧ (¬ e = 0 → B = ar0 ∧ r' = 0) ∧ ∀ L R, isMap A a → isMap A b → IsT A a L → IsT A b R → (BadJ L R ∧ e = 5) ∨ (¬ BadJ L R ∧ e = 2 ∧ A.free.length < L.length + R.length) ∨ (¬ BadJ L R ∧ e = 0 ∧ Ext A B ∧ AOk B ∧ A.free.length ≤ B.free.length + (L.length + R.length) ∧ IsT B r' (L ++ R))
theorem join_form {A B : Ar} {a b r' e : Int} {w w' : World} {L R : List It} (hm : isMap A a → IsT A a L) (hm2 : isMap A b → IsT A b R) (h : CallP A [a, b] (fun s' r' e _ => JoinJ A L R s' r' e) (fun _ => False) w w' B r' e) : JoinP A a b B r' e := by
  rcases h with ⟨h1, h2, h3, h4, _⟩ | ⟨h1, s', r0, e0, hJ, he, h3, h4⟩
  · exact ⟨fun _ => h2, fun _ => ⟨h3, h4⟩, fun L' R' h h' => absurd ⟨h, h'⟩ (allMaps_2no h1)⟩
  · obtain ⟨hmap, hmap2⟩ := allMaps_2 h1
    refine ⟨fun h => absurd ⟨hmap, hmap2⟩ h, h3, fun L' R' _ _ hL' hR' => ?_⟩
    obtain rfl := hL'.unique (hm hmap)
    obtain rfl := hR'.unique (hm2 hmap2)
    rcases hJ.now with ⟨hb, h5⟩ | ⟨hb, h5, hg, hi⟩
    · exact .inl ⟨hb, by rw [he, h5]; rfl⟩
    · rw [h5, if_pos rfl] at he
      by_cases h0 : s'.2 = 0
      · obtain ⟨rfl, rfl⟩ := h4 (by rw [he, h0])
        exact .inr (.inr ⟨hb, by rw [he, h0], hg.ext, hg.ok, hg.free, hi h0⟩)
      · have := hg.full rfl h0
        exact .inr (.inl ⟨hb, by rw [he, this.1], this.2⟩)
theorem c_tjoin (A : Ar) (na fa : Option Addr) (nc fc : Nat) (hnc : A.nodes.length ≤ nc) (hfc : A.free.length ≤ fc) (a b : Int) (ha : U64 a) (hb : U64 b) (M : Nat → Prop) (w : World) (hA : Ft M (fun u => ArR u na fa A) w) :
    FC Try.prog 34 [arV na fa nc fc A, .int .u64 a, .int .u64 b] w (fun u w' => Sub w w' ∧ ArP M w w' (JoinP A a b) u) := by
  obtain ⟨L, hm⟩ := mapsL A a
  obtain ⟨R, hm2⟩ := mapsL A b
  refine FC.intro Try.func34 rfl Try.ntmps34 rfl ?_
  have S := Sub.refl w
  refine RC.seq ?_
  refine RC.region rfl ?_
  refine RL.box rfl rfl rfl (fun b_3 w_3 e_3 z_3 hb_3 s_3 => ?_)
  have ge_3 := S.le e_3
  have d_hA_b_3 := hA.neNew e_3
  have S := S.trans s_3
  have hA := hA.sub s_3
  have hb_3 : Has w_3 b_3 ([.slice na A.nodes.length nc, .slice fa A.free.length fc]) _ := hb_3
  refine RL.box rfl rfl rfl (fun b_4 w_4 e_4 z_4 hb_4 s_4 => ?_)
  have ge_4 := S.le e_4
  have n_3__4 := hb_3.ne e_4
  have d_hA_b_4 := hA.neNew e_4
  have S := S.trans s_4
  have hA := hA.sub s_4
  have hb_3 := hb_3.sub s_4
  refine RL.box rfl rfl rfl (fun b_5 w_5 e_5 z_5 hb_5 s_5 => ?_)
  have ge_5 := S.le e_5
  have n_3__5 := hb_3.ne e_5
  have n_4__5 := hb_4.ne e_5
  have d_hA_b_5 := hA.neNew e_5
  have S := S.trans s_5
  have hA := hA.sub s_5
  have hb_3 := hb_3.sub s_5
  have hb_4 := hb_4.sub s_5
  refine RL.alloc ze28 rfl rfl (fun b_6 w_6 e_6 z_6 hb_6 s_6 => ?_)
  have ge_6 := S.le e_6
  have n_3__6 := hb_3.ne e_6
  have n_4__6 := hb_4.ne e_6
  have n_5__6 := hb_5.ne e_6
  have d_hA_b_6 := hA.neNew e_6
  have S := S.trans s_6
  have hA := hA.sub s_6
  have hb_3 := hb_3.sub s_6
  have hb_4 := hb_4.sub s_6
  have hb_5 := hb_5.sub s_6
  refine RL.ev (.assign rfl) rfl rfl ?_
  refine RL.ev (.assign rfl) rfl rfl ?_
  refine RL.nil (RC.back ?_)
  refine RC.seq ?_
  refine RC.region rfl ?_
  refine RL.ev (.loadR ([.slice na A.nodes.length nc, .slice fa A.free.length fc]) sh28 rfl hb_3.row rfl) rfl rfl ?_
  refine RL.ev (.load1 sh30 rfl (hb_4.cell rfl)) rfl rfl ?_
  refine RL.ev (.load1 sh30 rfl (hb_5.cell rfl)) rfl rfl ?_
  refine RL.buildSliceN (vs := [_, _]) sl60 _ ze30 rfl ⟨rfl, rfl, trivial⟩ rfl rfl rfl rfl rfl rfl (fun b_12 w_12 e_12 z_12 hb_12 s_12 => ?_)
  have ge_12 := S.le e_12
  have n_3__12 := hb_3.ne e_12
  have n_4__12 := hb_4.ne e_12
  have n_5__12 := hb_5.ne e_12
  have n_6__12 := hb_6.ne e_12
  have d_hA_b_12 := hA.neNew e_12
  have S := S.trans s_12
  have hA := hA.sub s_12
  have hb_3 := hb_3.sub s_12
  have hb_4 := hb_4.sub s_12
  have hb_5 := hb_5.sub s_12
  have hb_6 := hb_6.sub s_12
  refine RL.ev (.func (xs := []) (ys := [_, _]) rfl rfl) rfl rfl ?_
  refine RL.call rfl ok49 (c_tcall 61 ok61 [.pointer (some ⟨b_4, 0, none⟩), .pointer (some ⟨b_5, 0, none⟩)] A na fa nc fc hnc hfc [a, b] (some ⟨b_12, 0, none⟩) 2 2 rfl (Nat.le_of_ble_eq_true rfl) (fun x hx => by simp only [List.mem_cons, List.not_mem_nil, or_false] at hx; rcases hx with rfl | rfl; exact ha; exact hb) (fun _ => False) M (fun s' r' e _ => JoinJ A L R s' r' e) w_12 hA (Has.sl0 (rows := [[u6 a], [u6 b]]) hb_12 (fun r hr => by simp only [List.mem_cons, List.not_mem_nil, or_false] at hr; rcases hr with rfl | rfl <;> rfl)) (fun _ h => h.elim) (fun hyes bf C w1 s1 hbf hF _ => FC.mono (c_join1 A a b ha hb L R (allMaps_2 hyes).1.1 (hm (allMaps_2 hyes).1) (hm2 (allMaps_2 hyes).2) (isMap_len (allMaps_2 hyes).1 (hm (allMaps_2 hyes).1)) (isMap_len (allMaps_2 hyes).2 (hm2 (allMaps_2 hyes).2)) bf b_4 b_5 C w1 hF (hb_4.sub s1) (hb_5.sub s1)) (fun u w2 ⟨s', r', e, C', h1, h2, h3, h4, h5, h6⟩ => ⟨s', r', e, C', h1, h2, h3, h4.mono fun k _ e => .inl e, h5, Ft.pure h6⟩))) rfl rfl ?_
  rintro _ w1 ⟨ag, na', fa', nc', fc', B, r', e, M', rfl, hu, hnc', hfc', hA', hup, hcp⟩
  have dB6 : ∀ k, M' k → k ≠ b_6 := (fun k hk e => hup.not hb_6.lt (fun e' => d_hA_b_6 _ e' rfl) (e ▸ hk))
  have hup := hup.le S.size
  have S := S.trans ag.sub
  have hA := hA.sub ag.sub
  have hb_3 := hb_3.sub ag.sub
  have hb_4 := hb_4.sub ag.sub
  have hb_5 := hb_5.sub ag.sub
  have hb_6 := hb_6.sub ag.sub
  have hb_12 := hb_12.sub ag.sub
  have hpp := join_form hm hm2 hcp
  refine RL.ev (.extract rfl rfl) rfl rfl ?_
  refine RL.ev (.extract rfl rfl) rfl rfl ?_
  refine RL.ev (.extract rfl rfl) rfl rfl ?_
  refine RL.store sh28 rfl rfl rfl hb_6 (by exact Nat.le_of_ble_eq_true rfl) (by rfl) rfl (fun w3 z3 hb_6 a3 => ?_)
  have S := S.upd a3 ge_6
  have hb_3 := hb_3.upd a3 n_3__6
  have hb_4 := hb_4.upd a3 n_4__6
  have hb_5 := hb_5.upd a3 n_5__6
  have hb_12 := hb_12.upd a3 n_6__12.symm
  have hA' := hA'.updD a3 dB6
  have hb_6 : Has w3 b_6 ([.slice na' B.nodes.length nc', .slice fa' B.free.length fc']) _ := hb_6.now (by kernel_rfl)
  refine RL.ev (.assign rfl) rfl rfl ?_
  refine RL.ev (.assign rfl) rfl rfl ?_
  refine RL.nil (RC.back ?_)
  refine RC.done (rs := [.cell 6 28, .tmp 7, .tmp 8]) (vs := [_, _, _]) rfl rfl ⟨⟨_, rfl, .inr ⟨[.slice na' B.nodes.length nc', .slice fa' B.free.length fc'], sh28, hb_6.row, rfl⟩⟩, rfl, rfl, trivial⟩ ?_
  -- end 1
  exact ⟨S, na', fa', nc', fc', B, r', e, M', rfl, hu, hnc', hfc', hA', hup, hpp⟩
end Go.Proofs.Ytekdjjppdijkmaa
