/-
  treap.Split, Join, walked.
-/
import Derived.Test.YtekdjjppdijkmaaTreapMk2
set_option linter.unusedVariables false
set_option linter.unusedSimpArgs false
namespace Go.Proofs.Ytekdjjppdijkmaa
open Go Go.XL

theorem split_form {A B : Ar} {r key r1 e : Int} {b10 : Nat} {w w' : World} {L : List It} (hm : isMap A r → IsT A r L) (m10 : Has w b10 [.int .u64 0] 30) (h : CallP A [r] (SplitJ A L key b10) (· = b10) w w' B r1 e) :
    ∃ r2, Has w' b10 [.int .u64 r2] 30 ∧ U64 r2 ∧ (¬ isMap A r → e = 1) ∧ (¬ e = 0 → B = ar0 ∧ r1 = 0) ∧ ∀ L, isMap A r → IsT A r L → (e = 2 ∧ A.free.length < L.length) ∨ (e = 0 ∧ Ext A B ∧ AOk B ∧ A.free.length ≤ B.free.length + L.length ∧ IsT B r1 (ltL key L) ∧ IsT B r2 (geL key L)) := by
  rcases h with ⟨h1, h2, h3, h4, hs⟩ | ⟨h1, s', r0, e0, hJ, he, h3, h4⟩
  · rw [allMaps_1] at h1
    refine ⟨0, m10.sub hs, u0, fun _ => h2, fun _ => ⟨h3, h4⟩, fun L' h => ?_⟩
    rw [isMapB_yes h] at h1; cases h1
  · have hmap := maps_1 h1
    obtain ⟨h5, r2, hr2, hu2, hg, hi⟩ := hJ.now
    rw [h5, if_pos rfl] at he
    refine ⟨r2, hr2, hu2, fun h => absurd hmap h, h3, fun L' _ hL' => ?_⟩
    obtain rfl := hL'.unique (hm hmap)
    by_cases h0 : s'.2 = 0
    · obtain ⟨rfl, rfl⟩ := h4 (by rw [he, h0])
      exact .inr ⟨by rw [he, h0], hg.ext, hg.ok, hg.free, hi h0⟩
    · have := hg.full rfl h0
      exact .inl ⟨by rw [he, this.1], this.2⟩
theorem c_tsplit (A : Ar) (na fa : Option Addr) (nc fc : Nat) (hnc : A.nodes.length ≤ nc) (hfc : A.free.length ≤ fc) (r key : Int) (hr : U64 r) (hkey : I64 key) (M : Nat → Prop) (w : World) (hA : Ft M (fun u => ArR u na fa A) w) :
    FC Try.prog 33 [arV na fa nc fc A, .int .u64 r, .int .i64 key] w (fun u w' => Sub w w' ∧ SplitP A r key M w w' u) := by
  obtain ⟨L, hm⟩ := mapsL A r
  refine FC.intro Try.func33 rfl Try.ntmps33 rfl ?_
  have S := Sub.refl w
  refine RC.seq ?_
  refine RC.region rfl ?_
  refine RL.box rfl rfl rfl (fun b_3 w_3 e_3 z_3 hb_3 s_3 => ?_)
  have ge_3 := S.le e_3
  have d_hA_b_3 := hA.neNew e_3
  have S := S.trans s_3
  have hA := hA.sub s_3
  have hb_3 : Has w_3 b_3 ([.slice na A.nodes.length nc, .slice fa A.free.length fc]) _ := hb_3
  refine RL.box rfl rfl rfl (fun b_4 w_4 e_4 z_4 hb_4 s_4 => ?_)
  have ge_4 := S.le e_4
  have n_3__4 := hb_3.ne e_4
  have d_hA_b_4 := hA.neNew e_4
  have S := S.trans s_4
  have hA := hA.sub s_4
  have hb_3 := hb_3.sub s_4
  refine RL.box rfl rfl rfl (fun b_5 w_5 e_5 z_5 hb_5 s_5 => ?_)
  have ge_5 := S.le e_5
  have n_3__5 := hb_3.ne e_5
  have n_4__5 := hb_4.ne e_5
  have d_hA_b_5 := hA.neNew e_5
  have S := S.trans s_5
  have hA := hA.sub s_5
  have hb_3 := hb_3.sub s_5
  have hb_4 := hb_4.sub s_5
  refine RL.alloc ze28 rfl rfl (fun b_6 w_6 e_6 z_6 hb_6 s_6 => ?_)
  have ge_6 := S.le e_6
  have n_3__6 := hb_3.ne e_6
  have n_4__6 := hb_4.ne e_6
  have n_5__6 := hb_5.ne e_6
  have d_hA_b_6 := hA.neNew e_6
  have S := S.trans s_6
  have hA := hA.sub s_6
  have hb_3 := hb_3.sub s_6
  have hb_4 := hb_4.sub s_6
  have hb_5 := hb_5.sub s_6
  refine RL.ev (.assign rfl) rfl rfl ?_
  refine RL.ev (.assign rfl) rfl rfl ?_
  refine RL.ev (.assign rfl) rfl rfl ?_
  refine RL.nil (RC.back ?_)
  refine RC.seq ?_
  refine RC.region rfl ?_
  refine RL.alloc ze30 rfl rfl (fun b_10 w_10 e_10 z_10 hb_10 s_10 => ?_)
  have ge_10 := S.le e_10
  have n_3__10 := hb_3.ne e_10
  have n_4__10 := hb_4.ne e_10
  have n_5__10 := hb_5.ne e_10
  have n_6__10 := hb_6.ne e_10
  have d_hA_b_10 := hA.neNew e_10
  have S := S.trans s_10
  have hA := hA.sub s_10
  have hb_3 := hb_3.sub s_10
  have hb_4 := hb_4.sub s_10
  have hb_5 := hb_5.sub s_10
  have hb_6 := hb_6.sub s_10
  refine RL.nil (RC.back ?_)
  refine RC.seq ?_
  refine RC.region rfl ?_
  refine RL.ev (.loadR ([.slice na A.nodes.length nc, .slice fa A.free.length fc]) sh28 rfl hb_3.row rfl) rfl rfl ?_
  refine RL.ev (.load1 sh30 rfl (hb_4.cell rfl)) rfl rfl ?_
  refine RL.buildSlice1 sl60 _ ze30 rfl rfl rfl rfl rfl rfl rfl (fun b_16 w_16 e_16 z_16 hb_16 s_16 => ?_)
  have ge_16 := S.le e_16
  have n_3__16 := hb_3.ne e_16
  have n_4__16 := hb_4.ne e_16
  have n_5__16 := hb_5.ne e_16
  have n_6__16 := hb_6.ne e_16
  have n_10__16 := hb_10.ne e_16
  have d_hA_b_16 := hA.neNew e_16
  have S := S.trans s_16
  have hA := hA.sub s_16
  have hb_3 := hb_3.sub s_16
  have hb_4 := hb_4.sub s_16
  have hb_5 := hb_5.sub s_16
  have hb_6 := hb_6.sub s_16
  have hb_10 := hb_10.sub s_16
  refine RL.ev (.func (xs := []) (ys := [_, _, _]) rfl rfl) rfl rfl ?_
  refine RL.call rfl ok49 (c_tcall 59 ok59 [.pointer (some ⟨b_4, 0, none⟩), .pointer (some ⟨b_5, 0, none⟩), .pointer (some ⟨b_10, 0, none⟩)] A na fa nc fc hnc hfc [r] (some ⟨b_16, 0, none⟩) 1 1 rfl (Nat.le_of_ble_eq_true rfl) (fun x hx => by rw [List.mem_singleton] at hx; rw [hx]; exact hr) (· = b_10) M (SplitJ A L key b_10) w_16 hA (Has.sl1 (enc := u6) (l := [r]) hb_16) (fun k e => e ▸ hb_10.lt) (fun hyes bf C w1 s1 hbf hF hCM => FC.mono (c_split1 A r key hr hkey L (maps_1 hyes).1 (hm (maps_1 hyes)) (isMap_len (maps_1 hyes) (hm (maps_1 hyes))) bf b_4 b_5 b_10 C w1 hF (hb_4.sub s1) (hb_5.sub s1) (hb_10.sub s1) (fun e => (hCM _ e).elim (fun e => by have := hb_10.lt; omega) (fun e => d_hA_b_10 _ e rfl)) (fun e => by have := hb_10.lt; omega)) (fun u w2 h => h))) rfl rfl ?_
  rintro _ w1 ⟨ag, na', fa', nc', fc', B, r', e, M', rfl, hu, hnc', hfc', hA', hup, hcp⟩
  obtain ⟨r2, hr2, hu2, q1, q2, q3⟩ := split_form hm hb_10 hcp
  have dB6 : ∀ k, M' k → k ≠ b_6 := (fun k hk e => hup.not hb_6.lt (fun e' => d_hA_b_6 _ e' rfl) (e ▸ hk))
  have dB3 : ∀ k, M' k → k ≠ b_3 := (fun k hk e => hup.not hb_3.lt (fun e' => d_hA_b_3 _ e' rfl) (e ▸ hk))
  have hup := hup.le S.size
  have S := S.agrN ag (fun k e => e ▸ ge_10)
  have hb_3 := hb_3.step ag (fun e => n_3__10 e)
  have hb_4 := hb_4.step ag (fun e => n_4__10 e)
  have hb_5 := hb_5.step ag (fun e => n_5__10 e)
  have hb_6 := hb_6.step ag (fun e => n_6__10 e)
  have hb_16 := hb_16.step ag (fun e => n_10__16.symm e)
  have hb_10 := hr2
  refine RL.ev (.move rfl) rfl rfl ?_
  refine RL.ev (.extract rfl rfl) rfl rfl ?_
  refine RL.ev (.extract rfl rfl) rfl rfl ?_
  refine RL.ev (.extract rfl rfl) rfl rfl ?_
  refine RL.store sh28 rfl rfl rfl hb_3 (by exact Nat.le_of_ble_eq_true rfl) (by rfl) rfl (fun w3 z3 hb_3 a3 => ?_)
  have S := S.upd a3 ge_3
  have hb_4 := hb_4.upd a3 n_3__4.symm
  have hb_5 := hb_5.upd a3 n_3__5.symm
  have hb_6 := hb_6.upd a3 n_3__6.symm
  have hb_16 := hb_16.upd a3 n_3__16.symm
  have hb_10 := hb_10.upd a3 n_3__10.symm
  have hA' := hA'.updD a3 dB3
  have hb_3 : Has w3 b_3 ([.slice na' B.nodes.length nc', .slice fa' B.free.length fc']) _ := hb_3.now (by kernel_rfl)
  refine RL.ev (.assign rfl) rfl rfl ?_
  refine RL.ev (.assign rfl) rfl rfl ?_
  refine RL.nil (RC.back ?_)
  refine RC.seq ?_
  refine RC.seq ?_
  refine RC.region rfl ?_
  refine RL.ev (.move rfl) rfl rfl ?_
  refine RL.ev (.bin rfl rfl rfl) rfl rfl ?_
  refine RL.nil (RC.back ?_)
  refine RC.cond_dec rfl (fun h4 => ?_) (fun h4 => ?_)
  ·
    have he := h4
    refine RC.seq ?_
    refine RC.region rfl ?_
    refine RL.ev (.buildS ze28 pl28 rfl rfl) rfl rfl ?_
    refine RL.ev (.move rfl) rfl rfl ?_
    refine RL.store sh28 rfl rfl rfl hb_6 (by exact Nat.le_of_ble_eq_true rfl) (by rfl) rfl (fun w5 z5 hb_6 a5 => ?_)
    have S := S.upd a5 ge_6
    have hb_3 := hb_3.upd a5 n_3__6
    have hb_4 := hb_4.upd a5 n_4__6
    have hb_5 := hb_5.upd a5 n_5__6
    have hb_16 := hb_16.upd a5 n_6__16.symm
    have hb_10 := hb_10.upd a5 n_6__10.symm
    have hA' := hA'.updD a5 dB6
    have hb_6 : Has w5 b_6 ([.slice none 0 0, .slice none 0 0]) _ := hb_6.now (by kernel_rfl)
    refine RL.ev (.assign rfl) rfl rfl ?_
    refine RL.ev (.assign rfl) rfl rfl ?_
    refine RL.ev (.assign rfl) rfl rfl ?_
    refine RL.nil (RC.back ?_)
    refine RC.done (rs := [.cell 6 28, .tmp 7, .tmp 8, .tmp 9]) (vs := [_, _, _, _]) rfl rfl ⟨⟨_, rfl, .inr ⟨[.slice none 0 0, .slice none 0 0], sh28, hb_6.row, rfl⟩⟩, rfl, rfl, rfl, trivial⟩ ?_
    -- end 1
    exact ⟨S, none, none, 0, 0, ar0, 0, 0, e, fun _ => False, rfl, u0, u0, by decide, by decide, ⟨fun _ h => h.elim, fun _ _ => ⟨Sl.nil _ _ _, Sl.nil _ _ _, by simp [ar0], by simp [ar0]⟩⟩, fun _ h => h.elim, q1, fun _ => ⟨rfl, rfl, rfl⟩, fun L' h1 h2 => by rcases q3 L' h1 h2 with h | h; exact .inl h; exact absurd h.1 he⟩
  ·
    have he : e = 0 := Decidable.not_not.1 h4
    refine RC.skip (RC.back ?_)
    refine RC.seq ?_
    refine RC.drawD (fun k => k = b_6) [3] w3.heap.size 7 rfl rfl mxo (fun w6 s7 => ?_)
    have hNN : ∀ k, ((k = b_6) ∨ w3.heap.size ≤ k) → w.heap.size ≤ k := fun k e => e.elim (fun e => e ▸ ge_6) (fun e => Nat.le_trans S.size e)
    have ent_S := S.size
    have hN0 : ∀ k, w3.heap.size ≤ k → w.heap.size ≤ k := fun k e => Nat.le_trans S.size e
    have ltD_b_3 := hb_3.lt
    have ltD_b_4 := hb_4.lt
    have ltD_b_5 := hb_5.lt
    have ltD_b_6 := hb_6.lt
    have ltD_b_16 := hb_16.lt
    have ltD_b_10 := hb_10.lt
    have ltD_hA' := fun k hk => (hA'.ge k hk).2
    have szD := Nat.le_refl w3.heap.size
    have S := S.trans s7
    have hb_3 := hb_3.sub s7
    have hb_4 := hb_4.sub s7
    have hb_5 := hb_5.sub s7
    have hb_6 := hb_6.sub s7
    have hb_16 := hb_16.sub s7
    have hb_10 := hb_10.sub s7
    have hA' := hA'.sub s7
    have szD := Nat.le_trans szD s7.size
    refine RD.take 0 rfl (by kernel_rfl) (by kernel_rfl) (by kernel_rfl) (fun w' s' => .loadR ([.slice na' B.nodes.length nc', .slice fa' B.free.length fc']) sh28 rfl (hb_3.step s' (fun e => e.elim (fun e => n_3__6 e) (fun e => Nat.not_le.2 ltD_b_3 e))).row rfl) rfl rfl ?_
    refine RD.take 1 rfl (by kernel_rfl) (by kernel_rfl) (by kernel_rfl) (fun w' s' => .move rfl) rfl rfl ?_
    refine RD.take 2 rfl (by kernel_rfl) (by kernel_rfl) (by kernel_rfl) (fun w' s' => .load1 sh30 rfl ((hb_10.step s' (fun e => e.elim (fun e => n_6__10.symm e) (fun e => Nat.not_le.2 ltD_b_10 e))).cell rfl)) rfl rfl ?_
    refine RD.all [3] (by kernel_rfl) rfl (RDs.cons rfl ?_ (RDs.nil))
    refine RL.store sh28 rfl rfl rfl hb_6 (by exact Nat.le_of_ble_eq_true rfl) (by rfl) rfl (fun w8 z8 hb_6 a8 => ?_)
    have S := S.upd a8 ge_6
    have hb_3 := hb_3.upd a8 n_3__6
    have hb_4 := hb_4.upd a8 n_4__6
    have hb_5 := hb_5.upd a8 n_5__6
    have hb_16 := hb_16.upd a8 n_6__16.symm
    have hb_10 := hb_10.upd a8 n_6__10.symm
    have hA' := hA'.updD a8 dB6
    have szD := Nat.le_trans szD a8.size
    have hb_6 : Has w8 b_6 ([.slice na' B.nodes.length nc', .slice fa' B.free.length fc']) _ := hb_6.now (by kernel_rfl)
    refine RD.backW rfl (a8.mono fun k _ e => e ▸ (.inl (rfl))) ?_
    refine RD.take 4 rfl (by kernel_rfl) (by kernel_rfl) (by kernel_rfl) (fun w' s' => .assign rfl) rfl rfl ?_
    refine RD.take 5 rfl (by kernel_rfl) (by kernel_rfl) (by kernel_rfl) (fun w' s' => .assign rfl) rfl rfl ?_
    refine RD.take 6 rfl (by kernel_rfl) (by kernel_rfl) (by kernel_rfl) (fun w' s' => .assign rfl) rfl rfl ?_
    refine RD.done (by kernel_rfl) (RC.back ?_)
    refine RC.done (rs := [.cell 6 28, .tmp 7, .tmp 8, .tmp 9]) (vs := [_, _, _, _]) rfl rfl ⟨⟨_, rfl, .inr ⟨[.slice na' B.nodes.length nc', .slice fa' B.free.length fc'], sh28, hb_6.row, rfl⟩⟩, rfl, rfl, rfl, trivial⟩ ?_
    -- end 2
    exact ⟨S, na', fa', nc', fc', B, r', r2, 0, M', rfl, hu, hu2, hnc', hfc', hA', hup, fun h => by rw [← he]; exact q1 h, fun h => absurd rfl h, fun L' h1 h2 => by have := q3 L' h1 h2; rw [he] at this; exact this⟩
/-! ### the ends of a row -/
def lastK (L : List It) : Int := match L.getLast? with | some y => y.k | none => 0
def firstK (L : List It) : Int := match L.head? with | some y => y.k | none => 0
theorem lastK_app {L R : List It} (h : 0 < R.length) : lastK (L ++ R) = lastK R := by
  unfold lastK
  rw [List.getLast?_append]
  cases R with
  | nil => simp at h
  | cons y R => simp [List.getLast?_cons]
theorem lastK_one {L : List It} {it : It} : lastK (L ++ [it]) = it.k := by unfold lastK; simp
theorem firstK_app {L R : List It} (h : 0 < L.length) : firstK (L ++ R) = firstK L := by
  unfold firstK
  cases L with
  | nil => simp at h
  | cons y L => simp
theorem lastK_le {L : List It} (h : Srt L) : ∀ y ∈ L, y.k ≤ lastK L := by
  intro y hy
  obtain ⟨L', z, rfl⟩ : ∃ L' z, L = L' ++ [z] := by
    rcases List.eq_nil_or_concat L with e | ⟨L', z, e⟩
    · rw [e] at hy; cases hy
    · exact ⟨L', z, by rw [e, List.concat_eq_append]⟩
  rw [lastK_one]
  rcases List.mem_append.1 hy with hy | hy
  · have := h.split.2.2.1 y hy; omega
  · rw [List.mem_singleton] at hy; rw [hy]; omega
theorem lastK_mem {L : List It} (h : 0 < L.length) : ∃ y ∈ L, y.k = lastK L := by
  rcases List.eq_nil_or_concat L with e | ⟨L', z, e⟩
  · rw [e] at h; simp at h
  · rw [e, List.concat_eq_append]; exact ⟨z, by simp, lastK_one.symm⟩
theorem firstK_le {L : List It} (h : Srt L) : ∀ y ∈ L, firstK L ≤ y.k := by
  intro y hy
  cases L with
  | nil => cases hy
  | cons z L =>
    show z.k ≤ y.k
    rcases List.mem_cons.1 hy with rfl | hy
    · omega
    · have := (List.pairwise_cons.1 h).1 y hy; omega
theorem firstK_mem {L : List It} (h : 0 < L.length) : ∃ y ∈ L, y.k = firstK L := by
  cases L with
  | nil => simp at h
  | cons z L => exact ⟨z, by simp, rfl⟩
theorem lt2_ends {L R : List It} (hL : Srt L) (hR : Srt R) (h1 : 0 < L.length) (h2 : 0 < R.length) : Lt2 L R ↔ lastK L < firstK R := by
  constructor
  · intro h
    obtain ⟨x, hx, ex⟩ := lastK_mem h1
    obtain ⟨y, hy, ey⟩ := firstK_mem h2
    have := h x hx y hy
    omega
  · intro h x hx y hy
    have := lastK_le hL x hx
    have := firstK_le hR y hy
    omega
theorem c_fend1 (bf : Nat) (s : St) (C : Nat → Prop) (r : Int) (L : List It) (hL : IsT s.1 r L) (hr : U64 r) (hr0 : ¬ r = 0) (w : World) (hF : Ft C (Fo bf s C) w) :
    FC Try.prog 62 [.pointer (some ⟨bf, 0, none⟩), .int .u64 r, .int .i64 1] w (Val (.int .i64 (lastK L)) w) := by
  obtain ⟨g0, a0, b0, it0', L0, R0, hKe0, hx0, _⟩ := hL.ne hr0
  have hgx0 := getN_yes hx0
  refine FC.intro Try.func62 rfl Try.ntmps62 rfl ?_
  have S := Sub.refl w
  refine RC.seq ?_
  refine RC.region rfl ?_
  refine RL.ev (.assign rfl) rfl rfl ?_
  refine RL.nil (RC.back ?_)
  refine RC.seq ?_
  refine RC.region rfl ?_
  refine RL.ev (.move rfl) rfl rfl ?_
  refine RL.ev (.move rfl) rfl rfl ?_
  refine RL.call rfl ok52 ((hgx0 ▸ c_fget bf s C r hr w (hF.sub S))) rfl rfl ?_
  rintro _ w1 ⟨rfl, s2⟩
  have S := S.trans s2
  refine RL.alloc ze78 rfl rfl (fun b_7 w_7 e_7 z_7 hb_7 s_7 => ?_)
  have ge_7 := S.le e_7
  have S := S.trans s_7
  refine RL.store sh78 rfl rfl rfl hb_7 (by exact Nat.le_of_ble_eq_true rfl) (by rfl) rfl (fun w3 z3 hb_7 a3 => ?_)
  have S := S.upd a3 ge_7
  have hb_7 : Has w3 b_7 ((tNode g0 it0'.k it0'.v ((L0.length : Int) + R0.length + 1) a0 b0).cells) _ := hb_7.now (by kernel_rfl)
  refine RL.nil (RC.back ?_)
  refine RC.seq ?_
  refine RC.block ?_
  refine RC.loop (α := Int × Node × List It) (fun x => [(0, .pointer (some ⟨bf, 0, none⟩)), (2, .int .i64 1), (7, .pointer (some ⟨b_7, 0, none⟩))]) (fun x w4 => (getA s.1 x.1 = some x.2.1 ∧ IsT s.1 x.1 x.2.2 ∧ ¬ x.1 = 0 ∧ lastK x.2.2 = lastK L) ∧ Has w4 b_7 x.2.1.cells 78 ∧ Sub w w4) (fun x => x.2.2.length) (r, tNode g0 it0'.k it0'.v ((L0.length : Int) + R0.length + 1) a0 b0, L) (keep_of (by repeat (first | exact trivial | refine And.intro rfl ?_))) (⟨⟨hx0, hL, hr0, rfl⟩, hb_7, S⟩) (fun x w4 hJ => ?_)
  obtain ⟨r, x, K⟩ := x; obtain ⟨⟨hx, hK, hr0, hKl⟩, hb_7, S⟩ := hJ; simp only [] at hx hK hr0 hKl hb_7; obtain ⟨g, a1, b1, it, L1, R1, hKe, e1, e2, e3, e4, e5⟩ := hK.ne hr0; have hxo := hF.now.nok x (getA_nok hx); rw [hx] at e1; have hxn : x = tNode g it.k it.v ((L1.length : Int) + R1.length + 1) a1 b1 := Option.some.inj e1; have hxk : x.k1 = b1 := by rw [hxn]; rfl
  refine RC.seq ?_
  refine RC.seq ?_
  refine RC.region rfl ?_
  refine RL.ev (.move rfl) rfl rfl ?_
  refine RL.ev (.field0 fo78_5 rfl) rfl rfl ?_
  refine RL.ev (.indexArr ar76 rfl rfl (by omega)) rfl rfl ?_
  refine RL.ev (.load1 sh30 rfl (hb_7.cell rfl)) rfl rfl ?_
  refine RL.ev (.bin rfl rfl rfl) rfl rfl ?_
  refine RL.nil (RC.back ?_)
  refine RC.cond_dec rfl (fun h5 => ?_) (fun h5 => ?_)
  ·
    have hb0 : ¬ x.k1 = 0 := h5
    rw [← hxk] at e3
    obtain ⟨g2, a2, b2, jt, L2, R2, hRe, hy, _⟩ := e3.ne hb0
    have hgy := getN_yes hy
    have hk1 : U64 x.k1 := hxo.kids _ (by simp [Node.kids])
    have hRl : 0 < R1.length := (by rw [hRe, List.length_append, List.length_cons]; omega)
    have hlen : K.length = L1.length + (R1.length + 1) := (by rw [hKe]; simp)
    refine RC.skip (RC.back ?_)
    refine RC.block ?_
    refine RC.region rfl ?_
    refine RL.ev (.move rfl) rfl rfl ?_
    refine RL.ev (.move rfl) rfl rfl ?_
    refine RL.ev (.field0 fo78_5 rfl) rfl rfl ?_
    refine RL.ev (.indexArr ar76 rfl rfl (by omega)) rfl rfl ?_
    refine RL.ev (.load1 sh30 rfl (hb_7.cell rfl)) rfl rfl ?_
    refine RL.call rfl ok52 ((hgy ▸ c_fget bf s C x.k1 hk1 w4 (hF.sub S))) rfl rfl ?_
    rintro _ w6 ⟨rfl, s7⟩
    have S := S.trans s7
    have hb_7 := hb_7.sub s7
    refine RL.store sh78 rfl rfl rfl hb_7 (by exact Nat.le_of_ble_eq_true rfl) (by rfl) rfl (fun w8 z8 hb_7 a8 => ?_)
    have S := S.upd a8 ge_7
    have hb_7 : Has w8 b_7 ((tNode g2 jt.k jt.v ((L2.length : Int) + R2.length + 1) a2 b2).cells) _ := hb_7.now (by kernel_rfl)
    exact RL.nil (fun a ka => ⟨(x.k1, tNode g2 jt.k jt.v ((L2.length : Int) + R2.length + 1) a2 b2, R1), ⟨⟨hy, e3, hb0, by rw [← hKl, hKe, show L1 ++ it :: R1 = (L1 ++ [it]) ++ R1 by simp, lastK_app hRl]⟩, hb_7, S⟩, by simp only []; omega, ka.keep (keep_of (by repeat (first | exact trivial | refine And.intro rfl ?_)))⟩)
  ·
    have hb0 : x.k1 = 0 := Decidable.not_not.1 h5
    rw [← hxk, hb0] at e3
    have hR0 := e3.zero
    have hres : x.n = lastK L := (by rw [← hKl, hKe, hR0, lastK_one, hxn]; rfl)
    refine RC.exit rfl (RC.back ?_)
    refine RC.seq ?_
    refine RC.region rfl ?_
    refine RL.ev (.field0 fo78_2 rfl) rfl rfl ?_
    refine RL.ev (.load1 sh2 rfl (hb_7.cell rfl)) rfl rfl ?_
    refine RL.ev (.assign rfl) rfl rfl ?_
    refine RL.nil (RC.back ?_)
    refine RC.done (rs := [.tmp 6]) (vs := [_]) rfl rfl ⟨rfl, trivial⟩ ?_
    -- end 1
    exact ⟨congrArg (Value.int .i64) hres, S⟩
theorem c_fend0 (bf : Nat) (s : St) (C : Nat → Prop) (r : Int) (L : List It) (hL : IsT s.1 r L) (hr : U64 r) (hr0 : ¬ r = 0) (w : World) (hF : Ft C (Fo bf s C) w) :
    FC Try.prog 62 [.pointer (some ⟨bf, 0, none⟩), .int .u64 r, .int .i64 0] w (Val (.int .i64 (firstK L)) w) := by
  obtain ⟨g0, a0, b0, it0', L0, R0, hKe0, hx0, _⟩ := hL.ne hr0
  have hgx0 := getN_yes hx0
  refine FC.intro Try.func62 rfl Try.ntmps62 rfl ?_
  have S := Sub.refl w
  refine RC.seq ?_
  refine RC.region rfl ?_
  refine RL.ev (.assign rfl) rfl rfl ?_
  refine RL.nil (RC.back ?_)
  refine RC.seq ?_
  refine RC.region rfl ?_
  refine RL.ev (.move rfl) rfl rfl ?_
  refine RL.ev (.move rfl) rfl rfl ?_
  refine RL.call rfl ok52 ((hgx0 ▸ c_fget bf s C r hr w (hF.sub S))) rfl rfl ?_
  rintro _ w1 ⟨rfl, s2⟩
  have S := S.trans s2
  refine RL.alloc ze78 rfl rfl (fun b_7 w_7 e_7 z_7 hb_7 s_7 => ?_)
  have ge_7 := S.le e_7
  have S := S.trans s_7
  refine RL.store sh78 rfl rfl rfl hb_7 (by exact Nat.le_of_ble_eq_true rfl) (by rfl) rfl (fun w3 z3 hb_7 a3 => ?_)
  have S := S.upd a3 ge_7
  have hb_7 : Has w3 b_7 ((tNode g0 it0'.k it0'.v ((L0.length : Int) + R0.length + 1) a0 b0).cells) _ := hb_7.now (by kernel_rfl)
  refine RL.nil (RC.back ?_)
  refine RC.seq ?_
  refine RC.block ?_
  refine RC.loop (α := Int × Node × List It) (fun x => [(0, .pointer (some ⟨bf, 0, none⟩)), (2, .int .i64 0), (7, .pointer (some ⟨b_7, 0, none⟩))]) (fun x w4 => (getA s.1 x.1 = some x.2.1 ∧ IsT s.1 x.1 x.2.2 ∧ ¬ x.1 = 0 ∧ firstK x.2.2 = firstK L) ∧ Has w4 b_7 x.2.1.cells 78 ∧ Sub w w4) (fun x => x.2.2.length) (r, tNode g0 it0'.k it0'.v ((L0.length : Int) + R0.length + 1) a0 b0, L) (keep_of (by repeat (first | exact trivial | refine And.intro rfl ?_))) (⟨⟨hx0, hL, hr0, rfl⟩, hb_7, S⟩) (fun x w4 hJ => ?_)
  obtain ⟨r, x, K⟩ := x; obtain ⟨⟨hx, hK, hr0, hKl⟩, hb_7, S⟩ := hJ; simp only [] at hx hK hr0 hKl hb_7; obtain ⟨g, a1, b1, it, L1, R1, hKe, e1, e2, e3, e4, e5⟩ := hK.ne hr0; have hxo := hF.now.nok x (getA_nok hx); rw [hx] at e1; have hxn : x = tNode g it.k it.v ((L1.length : Int) + R1.length + 1) a1 b1 := Option.some.inj e1; have hxk : x.k0 = a1 := by rw [hxn]; rfl
  refine RC.seq ?_
  refine RC.seq ?_
  refine RC.region rfl ?_
  refine RL.ev (.move rfl) rfl rfl ?_
  refine RL.ev (.field0 fo78_5 rfl) rfl rfl ?_
  refine RL.ev (.indexArr ar76 rfl rfl (by omega)) rfl rfl ?_
  refine RL.ev (.load1 sh30 rfl (hb_7.cell rfl)) rfl rfl ?_
  refine RL.ev (.bin rfl rfl rfl) rfl rfl ?_
  refine RL.nil (RC.back ?_)
  refine RC.cond_dec rfl (fun h5 => ?_) (fun h5 => ?_)
  ·
    have hb0 : ¬ x.k0 = 0 := h5
    rw [← hxk] at e2
    obtain ⟨g2, a2, b2, jt, L2, R2, hRe, hy, _⟩ := e2.ne hb0
    have hgy := getN_yes hy
    have hk1 : U64 x.k0 := hxo.kids _ (by simp [Node.kids])
    have hRl : 0 < L1.length := (by rw [hRe, List.length_append, List.length_cons]; omega)
    have hlen : K.length = L1.length + (R1.length + 1) := (by rw [hKe]; simp)
    refine RC.skip (RC.back ?_)
    refine RC.block ?_
    refine RC.region rfl ?_
    refine RL.ev (.move rfl) rfl rfl ?_
    refine RL.ev (.move rfl) rfl rfl ?_
    refine RL.ev (.field0 fo78_5 rfl) rfl rfl ?_
    refine RL.ev (.indexArr ar76 rfl rfl (by omega)) rfl rfl ?_
    refine RL.ev (.load1 sh30 rfl (hb_7.cell rfl)) rfl rfl ?_
    refine RL.call rfl ok52 ((hgy ▸ c_fget bf s C x.k0 hk1 w4 (hF.sub S))) rfl rfl ?_
    rintro _ w6 ⟨rfl, s7⟩
    have S := S.trans s7
    have hb_7 := hb_7.sub s7
    refine RL.store sh78 rfl rfl rfl hb_7 (by exact Nat.le_of_ble_eq_true rfl) (by rfl) rfl (fun w8 z8 hb_7 a8 => ?_)
    have S := S.upd a8 ge_7
    have hb_7 : Has w8 b_7 ((tNode g2 jt.k jt.v ((L2.length : Int) + R2.length + 1) a2 b2).cells) _ := hb_7.now (by kernel_rfl)
    exact RL.nil (fun a ka => ⟨(x.k0, tNode g2 jt.k jt.v ((L2.length : Int) + R2.length + 1) a2 b2, L1), ⟨⟨hy, e2, hb0, by rw [← hKl, hKe, firstK_app hRl]⟩, hb_7, S⟩, by simp only []; omega, ka.keep (keep_of (by repeat (first | exact trivial | refine And.intro rfl ?_)))⟩)
  ·
    have hb0 : x.k0 = 0 := Decidable.not_not.1 h5
    rw [← hxk, hb0] at e2
    have hR0 := e2.zero
    have hres : x.n = firstK L := (by rw [← hKl, hKe, hR0, hxn]; rfl)
    refine RC.exit rfl (RC.back ?_)
    refine RC.seq ?_
    refine RC.region rfl ?_
    refine RL.ev (.field0 fo78_2 rfl) rfl rfl ?_
    refine RL.ev (.load1 sh2 rfl (hb_7.cell rfl)) rfl rfl ?_
    refine RL.ev (.assign rfl) rfl rfl ?_
    refine RL.nil (RC.back ?_)
    refine RC.done (rs := [.tmp 6]) (vs := [_]) rfl rfl ⟨rfl, trivial⟩ ?_
    -- end 1
    exact ⟨congrArg (Value.int .i64) hres, S⟩
end Go.Proofs.Ytekdjjppdijkmaa
