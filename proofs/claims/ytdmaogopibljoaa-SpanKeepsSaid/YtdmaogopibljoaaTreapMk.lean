/-
  treap.Put, Del, Split, Get, walked.
-/
import Derived.Test.YtdmaogopibljoaaCall
set_option linter.unusedVariables false
set_option linter.unusedSimpArgs false
namespace Go.Proofs.Ytdmaogopibljoaa
open Go Go.XL

theorem allMaps_1 (A : Ar) (r : Int) : allMaps A [r] = isMapB A r := by rw [allMaps, List.all_cons, List.all_nil, Bool.and_true, isMapB_ok]
theorem Ft.pure {p : Prop} {w : World} (h : p) : Ft (fun _ => False) (fun _ => p) w := ⟨fun _ h => h.elim, fun _ _ => h⟩
theorem ft_lit {M : Nat → Prop} {I : World → Prop} {w w1 : World} (h : Ft M I w) (s : Sub w w1) : Ft M I w1 := h.sub s
/-- keys that may not be put -/
def BadK (L : List It) (key : Int) : Prop := key < -1073741824 ∨ key > 1073741824 ∨ (∀ x ∈ L, ¬ x.k = key) ∧ 200 ≤ L.length
def PutJ (A : Ar) (L : List It) (key v : Int) (s' : St) (r' e : Int) : Prop := (BadK L key ∧ e = 5) ∨ (¬ BadK L key ∧ e = 0 ∧ Gs (L.length + 1) (A, 0) s' ∧ (s'.2 = 0 → IsT s'.1 r' (putL L key v)))
theorem find_form {L : List It} {key : Int} {v : Value} (h : FindP L key v) : ∃ val fb, v = .tuple #[.int .i64 val, .bool fb] ∧ (fb = true ∧ (∃ x ∈ L, x.k = key ∧ x.v = val) ∨ fb = false ∧ val = 0 ∧ ∀ x ∈ L, ¬ x.k = key) := by
  rcases h with ⟨x, h1, h2, h3⟩ | ⟨h1, h2⟩
  · exact ⟨x.v, true, h3, .inl ⟨rfl, x, h1, h2, rfl⟩⟩
  · exact ⟨0, false, h2, .inr ⟨rfl, rfl, h1⟩⟩
theorem c_put1 (A : Ar) (r key v : Int) (hr : U64 r) (hkey : I64 key) (hv : I64 v) (L : List It) (hA : AOk A) (hL : IsT A r L) (hl : L.length ≤ 200) (bf b5 b6 b7 : Nat) (C : Nat → Prop) (w : World) (hF : Ft C (Fo bf (A, 0) C) w)
    (m5 : Has w b5 [.int .u64 r] 30) (m6 : Has w b6 [.int .i64 key] 2) (m7 : Has w b7 [.int .i64 v] 2) :
    FC Try.prog 23 [.pointer (some ⟨bf, 0, none⟩), .pointer (some ⟨b5, 0, none⟩), .pointer (some ⟨b6, 0, none⟩), .pointer (some ⟨b7, 0, none⟩)] w (fun u w2 => ∃ s' r' e C', u = .tuple #[.int .u64 r', .int .i64 e] ∧ U64 r' ∧ Ft C' (Fo bf s' C') w2 ∧ Agr (· = bf) w w2 ∧ Up C w C' ∧ PutJ A L key v s' r' e) := by
  refine FC.intro Try.func23 rfl Try.ntmps23 rfl ?_
  have G : Agr (· = bf) w w := Agr.refl _ _
  refine RC.seq ?_
  refine RC.region rfl ?_
  refine RL.ev (.assign rfl) rfl rfl ?_
  refine RL.ev (.assign rfl) rfl rfl ?_
  refine RL.nil (RC.back ?_)
  refine RC.seq ?_
  refine RC.region rfl ?_
  refine RL.ev (.move rfl) rfl rfl ?_
  refine RL.ev (.load1 sh30 rfl (m5.cell rfl)) rfl rfl ?_
  refine RL.ev (.load1 sh2 rfl (m6.cell rfl)) rfl rfl ?_
  refine RL.call rfl ok24 (c_ffind bf (A, 0) C r key L hL hr w hF) rfl rfl ?_
  rintro _ w1 ⟨s2, hfp⟩
  have G := G.trans s2.agr
  have hF := hF.sub s2
  have m5 := m5.sub s2
  have m6 := m6.sub s2
  have m7 := m7.sub s2
  obtain ⟨val, fb, rfl, hfb⟩ := find_form hfp
  refine RL.ev (.move rfl) rfl rfl ?_
  refine RL.ev (.extract rfl rfl) rfl rfl ?_
  refine RL.ev (.extract rfl rfl) rfl rfl ?_
  refine RL.ev (.assign rfl) rfl rfl ?_
  refine RL.ev (.assign rfl) rfl rfl ?_
  refine RL.nil (RC.back ?_)
  refine RC.seq ?_
  refine RC.seq ?_
  refine RC.region rfl ?_
  refine RL.ev (.load1 sh2 rfl (m6.cell rfl)) rfl rfl ?_
  refine RL.ev (.bin rfl rfl rfl) rfl rfl ?_
  refine RL.ev (.move rfl) rfl rfl ?_
  refine RL.split 18 rfl (fun h3 => ?_) (fun h3 => ?_)
  ·
    have q1 : key < -1073741824 := h3
    refine RL.off rfl rfl ?_
    refine RL.off rfl rfl ?_
    refine RL.ev (.pick_t rfl rfl) rfl rfl ?_
    refine RL.ev (.move rfl) rfl rfl ?_
    refine RL.off rfl rfl ?_
    refine RL.off rfl rfl ?_
    refine RL.off rfl rfl ?_
    refine RL.off rfl rfl ?_
    refine RL.off rfl rfl ?_
    refine RL.off rfl rfl ?_
    refine RL.off rfl rfl ?_
    refine RL.off rfl rfl ?_
    refine RL.off rfl rfl ?_
    refine RL.ev (.pick_t rfl rfl) rfl rfl ?_
    refine RL.nil (RC.back ?_)
    refine RC.cond_t rfl ?_
    refine RC.seq ?_
    refine RC.region rfl ?_
    refine RL.ev (.assign rfl) rfl rfl ?_
    refine RL.ev (.assign rfl) rfl rfl ?_
    refine RL.nil (RC.back ?_)
    refine RC.done (rs := [.tmp 5, .tmp 6]) (vs := [_, _]) rfl rfl ⟨rfl, rfl, trivial⟩ ?_
    -- end 1
    exact ⟨(A, 0), 0, 5, C, rfl, u0, hF, G, Up.refl _ _, .inl ⟨.inl q1, rfl⟩⟩
  ·
    have q1 : ¬ key < -1073741824 := h3
    refine RL.ev (.load1 sh2 rfl (m6.cell rfl)) rfl rfl ?_
    refine RL.ev (.bin rfl rfl rfl) rfl rfl ?_
    refine RL.ev (.pick_f rfl rfl) rfl rfl ?_
    refine RL.ev (.move rfl) rfl rfl ?_
    refine RL.split 22 rfl (fun h4 => ?_) (fun h4 => ?_)
    ·
      have q2 : key > 1073741824 := h4
      refine RL.off rfl rfl ?_
      refine RL.off rfl rfl ?_
      refine RL.off rfl rfl ?_
      refine RL.off rfl rfl ?_
      refine RL.off rfl rfl ?_
      refine RL.off rfl rfl ?_
      refine RL.off rfl rfl ?_
      refine RL.off rfl rfl ?_
      refine RL.off rfl rfl ?_
      refine RL.ev (.pick_t rfl rfl) rfl rfl ?_
      refine RL.nil (RC.back ?_)
      refine RC.cond_t rfl ?_
      refine RC.seq ?_
      refine RC.region rfl ?_
      refine RL.ev (.assign rfl) rfl rfl ?_
      refine RL.ev (.assign rfl) rfl rfl ?_
      refine RL.nil (RC.back ?_)
      refine RC.done (rs := [.tmp 5, .tmp 6]) (vs := [_, _]) rfl rfl ⟨rfl, rfl, trivial⟩ ?_
      -- end 2
      exact ⟨(A, 0), 0, 5, C, rfl, u0, hF, G, Up.refl _ _, .inl ⟨.inr (.inl q2), rfl⟩⟩
    ·
      have q2 : ¬ key > 1073741824 := h4
      refine RL.ev (.move rfl) rfl rfl ?_
      refine RL.ev (.not rfl) rfl rfl ?_
      refine RL.ev (.move rfl) rfl rfl ?_
      refine RL.splitB 25 rfl (fun h5 => ?_) (fun h5 => ?_)
      ·
        have q3 : ∀ x ∈ L, ¬ x.k = key := (hfb.resolve_left (fun h => by have := h5; rw [h.1] at this; cases this)).2.2
        refine RL.ev (.move rfl) rfl rfl ?_
        refine RL.ev (.load1 sh30 rfl (m5.cell rfl)) rfl rfl ?_
        refine RL.call rfl ok25 (c_fget bf (A, 0) C r hr w1 hF) rfl rfl ?_
        rintro _ w6 ⟨rfl, s7⟩
        have G := G.trans s7.agr
        have hF := hF.sub s7
        have m5 := m5.sub s7
        have m6 := m6.sub s7
        have m7 := m7.sub s7
        refine RL.ev (.as (v' := .int .i64 (L.length : Int)) (.fieldV Try.underlying69 rfl sh2 rfl rfl) (by show Value.int .i64 (getN A r).s = _; rw [getN_s, sizeA_isT hL])) rfl rfl ?_
        refine RL.ev (.bin rfl rfl rfl) rfl rfl ?_
        refine RL.ev (.pick_t rfl rfl) rfl rfl ?_
        refine RL.ev (.pick_f rfl rfl) rfl rfl ?_
        refine RL.nil (RC.back ?_)
        refine RC.cond_dec rfl (fun h8 => ?_) (fun h8 => ?_)
        ·
          have q4 := h8
          refine RC.seq ?_
          refine RC.region rfl ?_
          refine RL.ev (.assign rfl) rfl rfl ?_
          refine RL.ev (.assign rfl) rfl rfl ?_
          refine RL.nil (RC.back ?_)
          refine RC.done (rs := [.tmp 5, .tmp 6]) (vs := [_, _]) rfl rfl ⟨rfl, rfl, trivial⟩ ?_
          -- end 3
          exact ⟨(A, 0), 0, 5, C, rfl, u0, hF, G, Up.refl _ _, .inl ⟨.inr (.inr ⟨q3, by omega⟩), rfl⟩⟩
        ·
          have q4 := h8
          refine RC.skip (RC.back ?_)
          refine RC.seq ?_
          refine RC.region rfl ?_
          refine RL.ev (.move rfl) rfl rfl ?_
          refine RL.ev (.load1 sh30 rfl (m5.cell rfl)) rfl rfl ?_
          refine RL.ev (.load1 sh2 rfl (m6.cell rfl)) rfl rfl ?_
          refine RL.ev (.load1 sh2 rfl (m7.cell rfl)) rfl rfl ?_
          refine RL.call rfl ok26 (c_fput bf key v hkey hv A r L hL (A, 0) C w6 (Ext.refl _) hA hr (by omega) hF) rfl rfl ?_
          rintro _ w9 ⟨s1, C1, hg, ⟨r1, rfl, hu1, hi⟩, hF1, ag, up⟩
          have up := up.le G.size
          have G := G.trans ag
          refine RL.ev (.assign rfl) rfl rfl ?_
          refine RL.ev (.assign rfl) rfl rfl ?_
          refine RL.nil (RC.back ?_)
          refine RC.done (rs := [.tmp 5, .tmp 6]) (vs := [_, _]) rfl rfl ⟨rfl, rfl, trivial⟩ ?_
          -- end 4
          exact ⟨s1, r1, 0, C1, rfl, hu1, hF1, G, up, .inr ⟨fun h => h.elim q1 (fun h => h.elim q2 (fun h => by omega)), rfl, hg, hi⟩⟩
      ·
        have q3 : ∃ x ∈ L, x.k = key := (hfb.resolve_right (fun h => by have := h5; rw [h.1] at this; cases this)).2.imp fun x h => ⟨h.1, h.2.1⟩
        refine RL.off rfl rfl ?_
        refine RL.off rfl rfl ?_
        refine RL.off rfl rfl ?_
        refine RL.off rfl rfl ?_
        refine RL.off rfl rfl ?_
        refine RL.ev (.pick_f rfl rfl) rfl rfl ?_
        refine RL.ev (.pick_f rfl rfl) rfl rfl ?_
        refine RL.nil (RC.back ?_)
        refine RC.cond_f rfl ?_
        refine RC.skip (RC.back ?_)
        refine RC.seq ?_
        refine RC.region rfl ?_
        refine RL.ev (.move rfl) rfl rfl ?_
        refine RL.ev (.load1 sh30 rfl (m5.cell rfl)) rfl rfl ?_
        refine RL.ev (.load1 sh2 rfl (m6.cell rfl)) rfl rfl ?_
        refine RL.ev (.load1 sh2 rfl (m7.cell rfl)) rfl rfl ?_
        refine RL.call rfl ok26 (c_fput bf key v hkey hv A r L hL (A, 0) C w1 (Ext.refl _) hA hr (by omega) hF) rfl rfl ?_
        rintro _ w11 ⟨s1, C1, hg, ⟨r1, rfl, hu1, hi⟩, hF1, ag, up⟩
        have up := up.le G.size
        have G := G.trans ag
        refine RL.ev (.assign rfl) rfl rfl ?_
        refine RL.ev (.assign rfl) rfl rfl ?_
        refine RL.nil (RC.back ?_)
        refine RC.done (rs := [.tmp 5, .tmp 6]) (vs := [_, _]) rfl rfl ⟨rfl, rfl, trivial⟩ ?_
        -- end 5
        exact ⟨s1, r1, 0, C1, rfl, hu1, hF1, G, up, .inr ⟨fun h => h.elim q1 (fun h => h.elim q2 (fun h => by obtain ⟨x, hx, hk⟩ := q3; exact h.1 x hx hk)), rfl, hg, hi⟩⟩
def PutP (A : Ar) (r key v : Int) (B : Ar) (r' e : Int) : Prop :=
  (¬ isMap A r → e = 1) ∧ (¬ e = 0 → B = ar0 ∧ r' = 0) ∧ ∀ L, isMap A r → IsT A r L → (BadK L key ∧ e = 5) ∨ (¬ BadK L key ∧ e = 2 ∧ A.free.length < L.length + 1) ∨ (¬ BadK L key ∧ e = 0 ∧ Ext A B ∧ AOk B ∧ A.free.length ≤ B.free.length + (L.length + 1) ∧ IsT B r' (putL L key v))
theorem put_form {A B : Ar} {r key v r' e : Int} {w w' : World} {L : List It} (hm : isMap A r → IsT A r L) (h : CallP A [r] (fun s' r' e _ => PutJ A L key v s' r' e) (fun _ => False) w w' B r' e) : PutP A r key v B r' e := by
  rcases h with ⟨h1, h2, h3, h4, _⟩ | ⟨h1, s', r0, e0, hJ, he, h3, h4⟩
  · rw [allMaps_1] at h1
    refine ⟨fun _ => h2, fun _ => ⟨h3, h4⟩, fun L' h => ?_⟩
    rw [isMapB_yes h] at h1; cases h1
  · rw [allMaps_1] at h1
    have hmap := (isMapB_iff A r).1 h1
    refine ⟨fun h => absurd hmap h, h3, fun L' _ hL' => ?_⟩
    obtain rfl := hL'.unique (hm hmap)
    rcases hJ.now with ⟨hb, h5⟩ | ⟨hb, h5, hg, hi⟩
    · exact .inl ⟨hb, by rw [he, h5]; rfl⟩
    · rw [h5, if_pos rfl] at he
      by_cases h0 : s'.2 = 0
      · obtain ⟨rfl, rfl⟩ := h4 (by rw [he, h0])
        exact .inr (.inr ⟨hb, by rw [he, h0], hg.ext, hg.ok, hg.free, hi h0⟩)
      · have := hg.full rfl h0
        exact .inr (.inl ⟨hb, by rw [he, this.1], this.2⟩)
theorem c_tput (A : Ar) (na fa : Option Addr) (nc fc : Nat) (hnc : A.nodes.length ≤ nc) (hfc : A.free.length ≤ fc) (r key v : Int) (hr : U64 r) (hkey : I64 key) (hv : I64 v) (M : Nat → Prop) (w : World) (hA : Ft M (fun u => ArR u na fa A) w) :
    FC Try.prog 16 [arV na fa nc fc A, .int .u64 r, .int .i64 key, .int .i64 v] w (fun u w' => Sub w w' ∧ ArP M w w' (PutP A r key v) u) := by
  obtain ⟨L, hm⟩ : ∃ L, isMap A r → IsT A r L := by
    by_cases h : isMap A r
    · obtain ⟨_, L, hL, _⟩ := id h; exact ⟨L, fun _ => hL⟩
    · exact ⟨[], fun h' => absurd h' h⟩
  refine FC.intro Try.func16 rfl Try.ntmps16 rfl ?_
  have S := Sub.refl w
  refine RC.seq ?_
  refine RC.region rfl ?_
  refine RL.box rfl rfl rfl (fun b_4 w_4 e_4 z_4 hb_4 s_4 => ?_)
  have ge_4 := S.le e_4
  have d_hA_b_4 := hA.neNew e_4
  have S := S.trans s_4
  have hA := hA.sub s_4
  have hb_4 : Has w_4 b_4 ([.slice na A.nodes.length nc, .slice fa A.free.length fc]) _ := hb_4
  refine RL.box rfl rfl rfl (fun b_5 w_5 e_5 z_5 hb_5 s_5 => ?_)
  have ge_5 := S.le e_5
  have n_4__5 := hb_4.ne e_5
  have d_hA_b_5 := hA.neNew e_5
  have S := S.trans s_5
  have hA := hA.sub s_5
  have hb_4 := hb_4.sub s_5
  refine RL.box rfl rfl rfl (fun b_6 w_6 e_6 z_6 hb_6 s_6 => ?_)
  have ge_6 := S.le e_6
  have n_4__6 := hb_4.ne e_6
  have n_5__6 := hb_5.ne e_6
  have d_hA_b_6 := hA.neNew e_6
  have S := S.trans s_6
  have hA := hA.sub s_6
  have hb_4 := hb_4.sub s_6
  have hb_5 := hb_5.sub s_6
  refine RL.box rfl rfl rfl (fun b_7 w_7 e_7 z_7 hb_7 s_7 => ?_)
  have ge_7 := S.le e_7
  have n_4__7 := hb_4.ne e_7
  have n_5__7 := hb_5.ne e_7
  have n_6__7 := hb_6.ne e_7
  have d_hA_b_7 := hA.neNew e_7
  have S := S.trans s_7
  have hA := hA.sub s_7
  have hb_4 := hb_4.sub s_7
  have hb_5 := hb_5.sub s_7
  have hb_6 := hb_6.sub s_7
  refine RL.alloc ze28 rfl rfl (fun b_8 w_8 e_8 z_8 hb_8 s_8 => ?_)
  have ge_8 := S.le e_8
  have n_4__8 := hb_4.ne e_8
  have n_5__8 := hb_5.ne e_8
  have n_6__8 := hb_6.ne e_8
  have n_7__8 := hb_7.ne e_8
  have d_hA_b_8 := hA.neNew e_8
  have S := S.trans s_8
  have hA := hA.sub s_8
  have hb_4 := hb_4.sub s_8
  have hb_5 := hb_5.sub s_8
  have hb_6 := hb_6.sub s_8
  have hb_7 := hb_7.sub s_8
  refine RL.ev (.assign rfl) rfl rfl ?_
  refine RL.ev (.assign rfl) rfl rfl ?_
  refine RL.nil (RC.back ?_)
  refine RC.seq ?_
  refine RC.region rfl ?_
  refine RL.ev (.loadR ([.slice na A.nodes.length nc, .slice fa A.free.length fc]) sh28 rfl hb_4.row rfl) rfl rfl ?_
  refine RL.ev (.load1 sh30 rfl (hb_5.cell rfl)) rfl rfl ?_
  refine RL.buildSlice1 sl63 _ ze30 rfl rfl rfl rfl rfl rfl rfl (fun b_13 w_13 e_13 z_13 hb_13 s_13 => ?_)
  have ge_13 := S.le e_13
  have n_4__13 := hb_4.ne e_13
  have n_5__13 := hb_5.ne e_13
  have n_6__13 := hb_6.ne e_13
  have n_7__13 := hb_7.ne e_13
  have n_8__13 := hb_8.ne e_13
  have d_hA_b_13 := hA.neNew e_13
  have S := S.trans s_13
  have hA := hA.sub s_13
  have hb_4 := hb_4.sub s_13
  have hb_5 := hb_5.sub s_13
  have hb_6 := hb_6.sub s_13
  have hb_7 := hb_7.sub s_13
  have hb_8 := hb_8.sub s_13
  refine RL.ev (.func (xs := []) (ys := [_, _, _]) rfl rfl) rfl rfl ?_
  refine RL.call rfl ok22 (c_tcall 23 ok23 [.pointer (some ⟨b_5, 0, none⟩), .pointer (some ⟨b_6, 0, none⟩), .pointer (some ⟨b_7, 0, none⟩)] A na fa nc fc hnc hfc [r] (some ⟨b_13, 0, none⟩) 1 1 rfl (Nat.le_of_ble_eq_true rfl) (fun x hx => by rw [List.mem_singleton] at hx; rw [hx]; exact hr) (fun _ => False) M (fun s' r' e _ => PutJ A L key v s' r' e) w_13 hA (Has.sl1 (enc := u6) (l := [r]) hb_13) (fun _ h => h.elim) (fun hyes bf C w1 s1 hbf hF _ => FC.mono (c_put1 A r key v hr hkey hv L ((isMapB_iff A r).1 (by rw [← allMaps_1]; exact hyes)).1 (hm ((isMapB_iff A r).1 (by rw [← allMaps_1]; exact hyes))) (isMap_len ((isMapB_iff A r).1 (by rw [← allMaps_1]; exact hyes)) (hm ((isMapB_iff A r).1 (by rw [← allMaps_1]; exact hyes)))) bf b_5 b_6 b_7 C w1 hF (hb_5.sub s1) (hb_6.sub s1) (hb_7.sub s1)) (fun u w2 ⟨s', r', e, C', h1, h2, h3, h4, h5, h6⟩ => ⟨s', r', e, C', h1, h2, h3, h4.mono fun k _ e => .inl e, h5, Ft.pure h6⟩))) rfl rfl ?_
  rintro _ w1 ⟨ag, na', fa', nc', fc', B, r', e, M', rfl, hu, hnc', hfc', hA', hup, hcp⟩
  have dB8 : ∀ k, M' k → k ≠ b_8 := (fun k hk e => hup.not hb_8.lt (fun e' => d_hA_b_8 _ e' rfl) (e ▸ hk))
  have hup := hup.le S.size
  have S := S.trans ag.sub
  have hA := hA.sub ag.sub
  have hb_4 := hb_4.sub ag.sub
  have hb_5 := hb_5.sub ag.sub
  have hb_6 := hb_6.sub ag.sub
  have hb_7 := hb_7.sub ag.sub
  have hb_8 := hb_8.sub ag.sub
  have hb_13 := hb_13.sub ag.sub
  have hpp := put_form hm hcp
  refine RL.ev (.extract rfl rfl) rfl rfl ?_
  refine RL.ev (.extract rfl rfl) rfl rfl ?_
  refine RL.ev (.extract rfl rfl) rfl rfl ?_
  refine RL.store sh28 rfl rfl rfl hb_8 (by exact Nat.le_of_ble_eq_true rfl) (by rfl) rfl (fun w3 z3 hb_8 a3 => ?_)
  have S := S.upd a3 ge_8
  have hb_4 := hb_4.upd a3 n_4__8
  have hb_5 := hb_5.upd a3 n_5__8
  have hb_6 := hb_6.upd a3 n_6__8
  have hb_7 := hb_7.upd a3 n_7__8
  have hb_13 := hb_13.upd a3 n_8__13.symm
  have hA' := hA'.updD a3 dB8
  have hb_8 : Has w3 b_8 ([.slice na' B.nodes.length nc', .slice fa' B.free.length fc']) _ := hb_8.now (by kernel_rfl)
  refine RL.ev (.assign rfl) rfl rfl ?_
  refine RL.ev (.assign rfl) rfl rfl ?_
  refine RL.nil (RC.back ?_)
  refine RC.done (rs := [.cell 8 28, .tmp 9, .tmp 10]) (vs := [_, _, _]) rfl rfl ⟨⟨_, rfl, .inr ⟨[.slice na' B.nodes.length nc', .slice fa' B.free.length fc'], sh28, hb_8.row, rfl⟩⟩, rfl, rfl, trivial⟩ ?_
  -- end 1
  exact ⟨S, na', fa', nc', fc', B, r', e, M', rfl, hu, hnc', hfc', hA', hup, hpp⟩
end Go.Proofs.Ytdmaogopibljoaa
