/-
  What the statements about the makers of maps share.
-/
import Derived.Test.YtekdjjppdijkmaaTreapMk4
import Derived.Test.YtekdjjppdijkmaaOrderLaws
set_option linter.unusedVariables false
set_option linter.unusedSimpArgs false
namespace Go.Proofs.Ytekdjjppdijkmaa
open Go Go.XL

theorem newA_nodes (n : Nat) : (newA n).nodes.length = n := by simp [newA]
theorem newA_free (n : Nat) : (newA n).free.length = n := by simp [newA, newFree_len]
theorem isMap_0 {A : Ar} (h : AOk A) : isMap A 0 := ⟨h, [], .nil, Nat.zero_le _⟩
/-- a put that must go well -/
theorem PutP.good {A B : Ar} {r key v r' e : Int} {L : List It} (h : PutP A r key v B r' e) (hm : isMap A r) (hL : IsT A r L) (hk : -1073741824 ≤ key ∧ key ≤ 1073741824) (hl : L.length < 200) (hf : L.length + 1 ≤ A.free.length) :
    e = 0 ∧ Ext A B ∧ AOk B ∧ A.free.length ≤ B.free.length + (L.length + 1) ∧ IsT B r' (putL L key v) ∧ isMap B r' := by
  rcases h.2.2 L hm hL with ⟨h1, _⟩ | ⟨_, _, h1⟩ | ⟨_, h1, h2, h3, h4, h5⟩
  · rcases h1 with h1 | h1 | h1 <;> omega
  · omega
  · exact ⟨h1, h2, h3, h4, h5, h3, _, h5, Nat.le_trans (putL_len hL.srt) (by omega)⟩
theorem c_isYes (A : Ar) (na fa : Option Addr) (nc fc : Nat) (hA : AOk A) (r : Int) (L : List It) (a : Option Addr) (c m : Nat) (hm : m = L.length) (hc : L.length ≤ c) (hr : U64 r) (hl : L.length ≤ 1000000) (hL : IsT A r L) (w : World) (hR : ArR w na fa A) (hs : Sl w a 2 (L.map It.cells)) :
    FC Try.prog 29 [arV na fa nc fc A, .int .u64 r, .slice a m c] w (Val (.bool true) w) := by
  have h := c_refIs A na fa nc fc (by have := hA.most; omega) (L.length + 1) r L a c m w hm hc hr (by omega) hl hR hs
  rwa [(isF_isT (L.length + 1) r L hL.srt (by omega)).2 hL] at h
theorem c_alive6 (w : World) : FC Try.prog 28 [] w (Val (.bool true) w) := by
  have hok : AOk (newA 400) := newA_ok ⟨by decide, by decide⟩
  have hmap := isMap_0 hok
  refine FC.intro Try.func28 rfl Try.ntmps28 rfl ?_
  have S := Sub.refl w
  refine RC.seq ?_
  refine RC.region rfl ?_
  refine RL.ev (.assign rfl) rfl rfl ?_
  refine RL.nil (RC.back ?_)
  refine RC.seq ?_
  refine RC.region rfl ?_
  refine RL.call rfl ok26 (c_aNew 400 ⟨by decide, by decide⟩ w) rfl rfl ?_
  rintro _ w1 ⟨na, fa, nc, fc, rfl, hnc, hfc, hn0, s2⟩
  have hA := Ft.new hn0 s2
  have S := S.trans s2
  refine RL.ev (.move rfl) rfl rfl ?_
  refine RL.ev (.extract rfl rfl) rfl rfl ?_
  refine RL.ev (.extract rfl rfl) rfl rfl ?_
  refine RL.alloc ze28 rfl rfl (fun b_1 w_1 e_1 z_1 hb_1 s_1 => ?_)
  have ge_1 := S.le e_1
  have d_hA_b_1 := hA.neNew e_1
  have S := S.trans s_1
  have hA := hA.sub s_1
  refine RL.store sh28 rfl rfl rfl hb_1 (by exact Nat.le_of_ble_eq_true rfl) (by rfl) rfl (fun w3 z3 hb_1 a3 => ?_)
  have S := S.upd a3 ge_1
  have hA := hA.updD a3 d_hA_b_1
  have hb_1 : Has w3 b_1 ([.slice na (newA 400).nodes.length nc, .slice fa (newA 400).free.length fc]) _ := hb_1.now (by kernel_rfl)
  refine RL.ev (.assign rfl) rfl rfl ?_
  refine RL.nil (RC.back ?_)
  refine RC.seq ?_
  refine RC.region rfl ?_
  refine RL.ev (.loadR ([.slice na (newA 400).nodes.length nc, .slice fa (newA 400).free.length fc]) sh28 rfl hb_1.row rfl) rfl rfl ?_
  refine RL.call rfl ok27 (c_tput (newA 400) na fa nc fc hnc hfc 0 5 7 u0 (by unfold I64; decide) (by unfold I64; decide) _ w3 hA) rfl rfl ?_
  rintro _ w4 ⟨s5, na', fa', nc', fc', B, r', e, M', rfl, hu, hnc', hfc', hA', hup, hpp⟩
  have d_hA'_b_1 := upNe hup d_hA_b_1 hb_1.lt
  have S := S.trans s5
  have hA := hA.sub s5
  have hb_1 := hb_1.sub s5
  obtain ⟨rfl, hx, hBok, hBf, hBT, hBm⟩ := hpp.good hmap .nil (by decide) (by decide) (by rw [newA_free]; decide)
  refine RL.ev (.move rfl) rfl rfl ?_
  refine RL.ev (.extract rfl rfl) rfl rfl ?_
  refine RL.ev (.extract rfl rfl) rfl rfl ?_
  refine RL.ev (.extract rfl rfl) rfl rfl ?_
  refine RL.store sh28 rfl rfl rfl hb_1 (by exact Nat.le_of_ble_eq_true rfl) (by rfl) rfl (fun w6 z6 hb_1 a6 => ?_)
  have S := S.upd a6 ge_1
  have hA' := hA'.updD a6 d_hA'_b_1
  have hb_1 : Has w6 b_1 ([.slice na' B.nodes.length nc', .slice fa' B.free.length fc']) _ := hb_1.now (by kernel_rfl)
  refine RL.ev (.assign rfl) rfl rfl ?_
  refine RL.ev (.assign rfl) rfl rfl ?_
  refine RL.nil (RC.back ?_)
  refine RC.seq ?_
  refine RC.region rfl ?_
  refine RL.ev (.loadR ([.slice na' B.nodes.length nc', .slice fa' B.free.length fc']) sh28 rfl hb_1.row rfl) rfl rfl ?_
  refine RL.ev (.move rfl) rfl rfl ?_
  refine RL.call rfl ok36 (c_tget B na' fa' nc' fc' hnc' hfc' r' 5 hu _ w6 hA') rfl rfl ?_
  rintro _ w7 ⟨s8, v5, e5, rfl, _, hx2⟩
  have S := S.trans s8
  have hb_1 := hb_1.sub s8
  have hA' := hA'.sub s8
  have hx3 := hx2 _ hBm hBT
  have hx4 : v5 = 7 ∧ e5 = 0 := (hx3.elim (fun h => absurd rfl (h.1 ⟨5, 7⟩ (by simp [putL, ltL, gtL]))) (fun h => by obtain ⟨⟨x, hx, _, hxv⟩, he⟩ := h; simp [putL, ltL, gtL] at hx; rw [hx] at hxv; exact ⟨hxv.symm, he⟩))
  obtain ⟨rfl, rfl⟩ := hx4
  refine RL.ev (.move rfl) rfl rfl ?_
  refine RL.ev (.extract rfl rfl) rfl rfl ?_
  refine RL.ev (.extract rfl rfl) rfl rfl ?_
  refine RL.ev (.assign rfl) rfl rfl ?_
  refine RL.ev (.assign rfl) rfl rfl ?_
  refine RL.nil (RC.back ?_)
  refine RC.seq ?_
  refine RC.region rfl ?_
  refine RL.ev (.move rfl) rfl rfl ?_
  refine RL.ev (.as (v' := .bool true) (.bin rfl rfl rfl) (congrArg Value.bool (decide_eq_true (rfl)))) rfl rfl ?_
  refine RL.ev (.move rfl) rfl rfl ?_
  refine RL.ev (.move rfl) rfl rfl ?_
  refine RL.ev (.as (v' := .bool true) (.bin rfl rfl rfl) (congrArg Value.bool (decide_eq_true (rfl)))) rfl rfl ?_
  refine RL.ev (.pick_t rfl rfl) rfl rfl ?_
  refine RL.ev (.move rfl) rfl rfl ?_
  refine RL.ev (.move rfl) rfl rfl ?_
  refine RL.ev (.as (v' := .bool true) (.bin rfl rfl rfl) (congrArg Value.bool (decide_eq_true (rfl)))) rfl rfl ?_
  refine RL.ev (.pick_t rfl rfl) rfl rfl ?_
  refine RL.ev (.move rfl) rfl rfl ?_
  refine RL.ev (.move rfl) rfl rfl ?_
  refine RL.ev (.as (v' := .bool true) (.bin rfl rfl rfl) (congrArg Value.bool (decide_eq_true (rfl)))) rfl rfl ?_
  refine RL.ev (.pick_t rfl rfl) rfl rfl ?_
  refine RL.ev (.assign rfl) rfl rfl ?_
  refine RL.nil (RC.back ?_)
  refine RC.done (rs := [.tmp 0]) (vs := [_]) rfl rfl ⟨rfl, trivial⟩ ?_
  -- end 1
  exact ⟨rfl, S⟩
theorem few6_R {w na fa A} (h : ArR w na fa A) : ArR w na fa (few60 A) :=
  few60_R h
theorem c_few6 (A : Ar) (na fa : Option Addr) (nc fc : Nat) (hnc : A.nodes.length ≤ nc) (hfc : A.free.length ≤ fc) (w : World) :
    FC Try.prog 35 [arV na fa nc fc A] w (Val (arV na fa nc fc (few60 A)) w) := by
  refine FC.intro Try.func35 rfl Try.ntmps35 rfl ?_
  have S := Sub.refl w
  refine RC.seq ?_
  refine RC.region rfl ?_
  refine RL.box rfl rfl rfl (fun b_1 w_1 e_1 z_1 hb_1 s_1 => ?_)
  have ge_1 := S.le e_1
  have S := S.trans s_1
  have hb_1 : Has w_1 b_1 ([.slice na A.nodes.length nc, .slice fa A.free.length fc]) _ := hb_1
  refine RL.alloc ze28 rfl rfl (fun b_2 w_2 e_2 z_2 hb_2 s_2 => ?_)
  have ge_2 := S.le e_2
  have n_1__2 := hb_1.ne e_2
  have S := S.trans s_2
  have hb_1 := hb_1.sub s_2
  refine RL.nil (RC.back ?_)
  refine RC.seq ?_
  refine RC.drawD (fun k => k = b_1) [15, 17] w_2.heap.size 18 rfl rfl mxo (fun w1 s2 => ?_)
  have hNN : ∀ k, ((k = b_1) ∨ w_2.heap.size ≤ k) → w.heap.size ≤ k := fun k e => e.elim (fun e => e ▸ ge_1) (fun e => Nat.le_trans S.size e)
  have ent_S := S.size
  have hN0 : ∀ k, w_2.heap.size ≤ k → w.heap.size ≤ k := fun k e => Nat.le_trans S.size e
  have ltD_b_1 := hb_1.lt
  have ltD_b_2 := hb_2.lt
  have szD := Nat.le_refl w_2.heap.size
  have S := S.trans s2
  have hb_1 := hb_1.sub s2
  have hb_2 := hb_2.sub s2
  have szD := Nat.le_trans szD s2.size
  refine RD.take 0 rfl (by kernel_rfl) (by kernel_rfl) (by kernel_rfl) (fun w' s' => .field0 fo28_0 rfl) rfl rfl ?_
  refine RD.takeL 1 rfl (by kernel_rfl) (by kernel_rfl) (by kernel_rfl) (by kernel_rfl) (fun w' s' => .load1 sh25 rfl ((hb_1.step s' (fun e => Nat.not_le.2 ltD_b_1 e)).cell rfl)) rfl rfl ?_
  refine RD.take 2 rfl (by kernel_rfl) (by kernel_rfl) (by kernel_rfl) (fun w' s' => .field0 fo28_0 rfl) rfl rfl ?_
  refine RD.takeL 3 rfl (by kernel_rfl) (by kernel_rfl) (by kernel_rfl) (by kernel_rfl) (fun w' s' => .load1 sh25 rfl ((hb_1.step s' (fun e => Nat.not_le.2 ltD_b_1 e)).cell rfl)) rfl rfl ?_
  refine RD.take 4 rfl (by kernel_rfl) (by kernel_rfl) (by kernel_rfl) (fun w' s' => .len sl25 rfl) rfl rfl ?_
  refine RD.take 5 rfl (by kernel_rfl) (by kernel_rfl) (by kernel_rfl) (fun w' s' => .min2 rfl rfl) rfl rfl ?_
  refine RD.take 6 rfl (by kernel_rfl) (by kernel_rfl) (by kernel_rfl) (fun w' s' => .as (v' := .slice na (A.nodes.take 60).length nc) (.sliceHi sl25 rfl rfl (by split <;> omega)) (by rw [← few_len]; rfl)) rfl rfl ?_
  refine RD.take 7 rfl (by kernel_rfl) (by kernel_rfl) (by kernel_rfl) (fun w' s' => .field0 fo28_1 rfl) rfl rfl ?_
  refine RD.takeL 8 rfl (by kernel_rfl) (by kernel_rfl) (by kernel_rfl) (by kernel_rfl) (fun w' s' => .load1 sh26 rfl ((hb_1.step s' (fun e => Nat.not_le.2 ltD_b_1 e)).cell rfl)) rfl rfl ?_
  refine RD.take 9 rfl (by kernel_rfl) (by kernel_rfl) (by kernel_rfl) (fun w' s' => .field0 fo28_1 rfl) rfl rfl ?_
  refine RD.takeL 10 rfl (by kernel_rfl) (by kernel_rfl) (by kernel_rfl) (by kernel_rfl) (fun w' s' => .load1 sh26 rfl ((hb_1.step s' (fun e => Nat.not_le.2 ltD_b_1 e)).cell rfl)) rfl rfl ?_
  refine RD.take 11 rfl (by kernel_rfl) (by kernel_rfl) (by kernel_rfl) (fun w' s' => .len sl26 rfl) rfl rfl ?_
  refine RD.take 12 rfl (by kernel_rfl) (by kernel_rfl) (by kernel_rfl) (fun w' s' => .min2 rfl rfl) rfl rfl ?_
  refine RD.take 13 rfl (by kernel_rfl) (by kernel_rfl) (by kernel_rfl) (fun w' s' => .as (v' := .slice fa (A.free.take 62).length fc) (.sliceHi sl26 rfl rfl (by split <;> omega)) (by rw [← few_len]; rfl)) rfl rfl ?_
  refine RD.take 14 rfl (by kernel_rfl) (by kernel_rfl) (by kernel_rfl) (fun w' s' => .field0 fo28_0 rfl) rfl rfl ?_
  refine RD.all [15] (by kernel_rfl) rfl (RDs.cons rfl ?_ (RDs.nil))
  refine RL.store sh25 rfl rfl rfl hb_1 (by exact Nat.le_of_ble_eq_true rfl) (by rfl) rfl (fun w3 z3 hb_1 a3 => ?_)
  have S := S.upd a3 ge_1
  have hb_2 := hb_2.upd a3 n_1__2.symm
  have szD := Nat.le_trans szD a3.size
  refine RD.backW rfl (a3.mono fun k _ e => e ▸ (.inl (rfl))) ?_
  refine RD.take 16 rfl (by kernel_rfl) (by kernel_rfl) (by kernel_rfl) (fun w' s' => .field0 fo28_1 rfl) rfl rfl ?_
  refine RD.all [17] (by kernel_rfl) rfl (RDs.cons rfl ?_ (RDs.nil))
  refine RL.store sh26 rfl rfl rfl hb_1 (by exact Nat.le_of_ble_eq_true rfl) (by rfl) rfl (fun w4 z4 hb_1 a4 => ?_)
  have S := S.upd a4 ge_1
  have hb_2 := hb_2.upd a4 n_1__2.symm
  have szD := Nat.le_trans szD a4.size
  refine RD.backW rfl (a4.mono fun k _ e => e ▸ (.inl (rfl))) ?_
  refine RD.done (by kernel_rfl) (RC.back ?_)
  refine RC.seq ?_
  refine RC.region rfl ?_
  refine RL.ev (.loadR ([.slice na (A.nodes.take 60).length nc, .slice fa (A.free.take 62).length fc]) sh28 rfl hb_1.row rfl) rfl rfl ?_
  refine RL.store sh28 rfl rfl rfl hb_2 (by exact Nat.le_of_ble_eq_true rfl) (by rfl) rfl (fun w5 z5 hb_2 a5 => ?_)
  have S := S.upd a5 ge_2
  have hb_1 := hb_1.upd a5 n_1__2
  have hb_2 : Has w5 b_2 ([.slice na (A.nodes.take 60).length nc, .slice fa (A.free.take 62).length fc]) _ := hb_2.now (by kernel_rfl)
  refine RL.nil (RC.back ?_)
  refine RC.done (rs := [.cell 2 28]) (vs := [_]) rfl rfl ⟨⟨_, rfl, .inr ⟨[.slice na (A.nodes.take 60).length nc, .slice fa (A.free.take 62).length fc], sh28, hb_2.row, rfl⟩⟩, trivial⟩ ?_
  -- end 1
  exact ⟨rfl, S⟩
theorem c_refDel (l : List It) (a : Option Addr) (c m : Nat) (hm : m = l.length) (key : Int) (w : World) (hl : Sl w a 2 (l.map It.cells)) (hb : l.length ≤ 1000000) :
    FC Try.prog 31 [.slice a m c, .int .i64 key] w (fun u w' => ∃ a' c', u = .slice a' ((delL l key).map It.cells).length c' ∧ Ows w.heap.size w' 42 2 (.slice a' ((delL l key).map It.cells).length c') ((delL l key).map It.cells) ∧ Sub w w') := by
  subst hm
  refine FC.intro Try.func31 rfl Try.ntmps31 rfl ?_
  have S := Sub.refl w
  refine RC.seq ?_
  refine RC.region rfl ?_
  refine RL.ev (.assign rfl) rfl rfl ?_
  refine RL.nil (RC.back ?_)
  refine RC.seq ?_
  refine RC.region rfl ?_
  refine RL.buildSlice0 sl23 rfl rfl (fun b_8 w_8 e_8 z_8 hb_8 s_8 => ?_)
  have ge_8 := S.le e_8
  have S := S.trans s_8
  refine RL.ev (.assign rfl) rfl rfl ?_
  refine RL.nil (RC.back ?_)
  refine RC.seq ?_
  refine RC.seq ?_
  refine RC.region rfl ?_
  refine RL.ev (.move rfl) rfl rfl ?_
  refine RL.ev (.len sl23 rfl) rfl rfl ?_
  refine RL.ev (.move rfl) rfl rfl ?_
  refine RL.nil (RC.back ?_)
  refine RC.block ?_
  refine RC.loop (α := Nat × Option Addr × Nat × Nat) (fun x => [(1, .int .i64 key), (5, .slice x.2.1 x.2.2.1 x.2.2.2), (9, .slice a l.length c), (10, .int .i64 (l.length : Int)), (11, .int .i64 (x.1 : Int))]) (fun x w1 => x.1 ≤ l.length ∧ Ows w.heap.size w1 42 2 (.slice x.2.1 x.2.2.1 x.2.2.2) ((delL (l.take x.1) key).map It.cells) ∧ Sub w w1) (fun x => l.length - x.1) (0, some ⟨b_8, 0, none⟩, 0, 0) (keep_of (by repeat (first | exact trivial | refine And.intro rfl ?_))) (⟨Nat.zero_le _, Ows.lit0 hb_8 (by omega), S⟩) (fun x w1 hJ => ?_)
  obtain ⟨i, ao, mo, co⟩ := x; obtain ⟨hi, o, S⟩ := hJ; simp only [] at hi o; obtain rfl := o.sl.2; have szB := S.size; have hdl : (delL (l.take i) key).length ≤ i := Nat.le_trans (List.length_filter_le _ _) (by rw [List.length_take]; omega)
  refine RC.seq ?_
  refine RC.region rfl ?_
  refine RL.ev (.bin rfl rfl rfl) rfl rfl ?_
  refine RL.nil (RC.back ?_)
  refine RC.seq ?_
  refine RC.cond_dec rfl (fun h2 => ?_) (fun h2 => ?_)
  ·
    obtain ⟨x, hx⟩ := getSome (l := l) (i := i) (by omega)
    refine RC.skip (RC.back ?_)
    refine RC.seq ?_
    refine RC.block ?_
    refine RC.seq ?_
    refine RC.region rfl ?_
    refine RL.ev (.indexS sl23 rfl rfl (by omega) (hl.is (i := 0) (by simp only [List.length_map]; omega))) rfl rfl ?_
    refine RL.ev (.loadR (x.cells) sh42 rfl ((hl.sub S).rowAt (enc := It.cells) (i := i) hx) rfl) rfl rfl ?_
    refine RL.alloc ze42 rfl rfl (fun b_7 w_7 e_7 z_7 hb_7 s_7 => ?_)
    have ge_7 := S.le e_7
    have d_o_b_7 := o.neNew e_7
    have S := S.trans s_7
    have o := o.sub s_7
    have szB := Nat.le_trans szB s_7.size
    refine RL.store sh42 rfl rfl rfl hb_7 (by exact Nat.le_of_ble_eq_true rfl) (by rfl) rfl (fun w3 z3 hb_7 a3 => ?_)
    have S := S.upd a3 ge_7
    have o := o.updD a3 d_o_b_7
    have szB := Nat.le_trans szB a3.size
    have hb_7 : Has w3 b_7 (x.cells) _ := hb_7.now (by kernel_rfl)
    refine RL.nil (RC.back ?_)
    refine RC.seq ?_
    refine RC.region rfl ?_
    refine RL.ev (.field0 fo42_0 rfl) rfl rfl ?_
    refine RL.ev (.load1 sh2 rfl (hb_7.cell rfl)) rfl rfl ?_
    refine RL.ev (.move rfl) rfl rfl ?_
    refine RL.ev (.bin rfl rfl rfl) rfl rfl ?_
    refine RL.nil (RC.back ?_)
    refine RC.cond_dec rfl (fun h4 => ?_) (fun h4 => ?_)
    ·
      have hk : ¬ x.k = key := h4
      have hnext : delL (l.take (i + 1)) key = delL (l.take i) key ++ [x] := (by unfold delL; rw [filter_take hx, if_pos (decide_eq_true hk)])
      refine RC.region rfl ?_
      refine RL.ev (.move rfl) rfl rfl ?_
      refine RL.ev (.loadR (x.cells) sh42 rfl hb_7.row rfl) rfl rfl ?_
      refine RL.buildSlice1 sl23 _ ze42 rfl rfl rfl rfl rfl rfl rfl (fun b_21 w_21 e_21 z_21 hb_21 s_21 => ?_)
      have ge_21 := S.le e_21
      have n_7__21 := hb_7.ne e_21
      have d_o_b_21 := o.neNew e_21
      have S := S.trans s_21
      have o := o.sub s_21
      have szB := Nat.le_trans szB s_21.size
      have hb_7 := hb_7.sub s_21
      have sz_22 := S.size
      have ltb_7_22 := hb_7.lt
      have ltb_21_22 := hb_21.lt
      refine RL.append2 (base := w.heap.size) (rows := (delL (l.take i) key).map It.cells) (news := [_]) sl23 ze42 rfl rfl rfl rfl (.inl o) (Has.slOne hb_21) rfl (by intro r hr; rw [List.mem_singleton] at hr; subst hr; rfl) rfl (by (try simp only [List.length_map, List.length_nil, List.length_append, List.length_cons]); omega) (by (try simp only [List.length_map, List.length_nil, List.length_append, List.length_cons]); omega) (by omega) rfl rfl (fun v_22 w_22 hc_22 ho_22 ag_22 ob_22 => ?_)
      have o22 := ho_22 (.inl (by simp))
      rw [show _ ++ [_] = ((delL (l.take i) key ++ [x]).map It.cells) from by rw [List.map_append]; rfl] at o22
      have d_o22_b_7 := obNe ob_22 d_o_b_7 hb_7.lt
      have S := S.agrN ag_22 (fun k e => Nat.le_trans (by omega) e.2)
      have szB := Nat.le_trans szB ag_22.size
      have hb_7 := hb_7.step ag_22 (fun e => d_o_b_7 _ e.1 rfl)
      obtain ⟨a_22, c_22, rfl, k_22⟩ := o22.form
      refine RL.ev (.assign rfl) rfl rfl ?_
      refine RL.nil (RC.back ?_)
      refine RC.region rfl ?_
      refine RL.ev (.as (.bin rfl rfl rfl) (wi64 (y := ((i + 1 : Nat) : Int)) (by omega) (by omega))) rfl rfl ?_
      refine RL.ev (.move rfl) rfl rfl ?_
      exact RL.nil (fun a ka => ⟨(i + 1, a_22, _, c_22), ⟨by omega, by show Ows _ _ _ _ _ ((delL (l.take (i + 1)) key).map It.cells); rw [hnext]; exact o22, S⟩, by omega, ka.keep (keep_of (by repeat (first | exact trivial | refine And.intro rfl ?_)))⟩)
    ·
      have hk : x.k = key := Decidable.not_not.1 h4
      have hnext : delL (l.take (i + 1)) key = delL (l.take i) key := (by unfold delL; rw [filter_take hx, if_neg (by simp [hk]), List.append_nil])
      refine RC.skip (RC.back ?_)
      refine RC.region rfl ?_
      refine RL.ev (.as (.bin rfl rfl rfl) (wi64 (y := ((i + 1 : Nat) : Int)) (by omega) (by omega))) rfl rfl ?_
      refine RL.ev (.move rfl) rfl rfl ?_
      exact RL.nil (fun a ka => ⟨(i + 1, ao, _, co), ⟨by omega, by show Ows _ _ _ _ _ ((delL (l.take (i + 1)) key).map It.cells); rw [hnext]; exact o, S⟩, by omega, ka.keep (keep_of (by repeat (first | exact trivial | refine And.intro rfl ?_)))⟩)
  ·
    obtain rfl : i = l.length := (by omega)
    rw [List.take_length] at o
    refine RC.exit rfl (RC.back ?_)
    refine RC.seq ?_
    refine RC.region rfl ?_
    refine RL.ev (.move rfl) rfl rfl ?_
    refine RL.ev (.assign rfl) rfl rfl ?_
    refine RL.nil (RC.back ?_)
    refine RC.done (rs := [.tmp 4]) (vs := [_]) rfl rfl ⟨rfl, trivial⟩ ?_
    -- end 1
    exact ⟨ao, co, by rw [List.take_length]; rfl, o, S⟩
end Go.Proofs.Ytekdjjppdijkmaa
